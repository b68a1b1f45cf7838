/- P. -/
import Derived.Test.YtcdogmjbnlmgeaaGreatDoorVcc
set_option linter.unusedSimpArgs false
set_option linter.unusedVariables false
set_option linter.unusedSectionVars false
noncomputable section
set_option maxRecDepth 1000000
namespace Go.Vam
open Go.Proofs Go.Proofs.Tryz
theorem Bil(x0 x1 x2:D):Hd C1 63 f63 (bd f63) [] [.ptr 0 0] [.cells [.dyn x0,.dyn x1,.dyn x2]]=
 .bind (.bin .lss 3 x2 i0) fun x3=>
 .leaf [x3] [[x0,x1,x2]]:=by kernel_rfl
theorem Bhv(x0 x1 x2:D):Hd C1 64 f64 (bd f64) [] [.ptr 0 0] [.cells [.dyn x0,.dyn x1,.dyn x2]]=
 .bind (.ia 59 x0 x1) fun x3=>
 .bind (.ld 67 x3) fun x4=>
 .bind (.agg 3 x4) fun x5=>
 .chk (cl x5 3) (
 .leaf [.agg (cl x5 3)] [[x0,x1,x2]]):=by kernel_rfl
theorem Bhd(x0 x1 x2:D):Hd C1 65 f65 (bd f65) [] [.ptr 0 0] [.cells [.dyn x0,.dyn x1,.dyn x2]]=
 .bind (.bin .lss 3 x2 i0) fun x3=>
 .ite x3 (
  .meth 64 [] [none] [] [x0,x1,x2] fun x4 x5=>
  .bind (.fld 67 x4 1) fun x6=>
  .bind (.cell x6) fun x7=>
  .chk [x7] (
  .leaf [] [[(gd x5 0),(gd x5 1),x7]])) (
  .leaf [] [[x0,x1,x2]]):=by kernel_rfl
theorem Bdh(x0 x1 x2 x3:D):Hd C1 117 f117 (bd f117) [] [.ptr 0 0,.dyn x0] [.cells [.dyn x1,.dyn x2,.dyn x3]]=
 .meth 64 [] [none] [] [x1,x2,x3] fun x4 x5=>
 .bind (.fld 67 x4 0) fun x6=>
 .bind (.bin .eql 3 x6 (.int .i64 3)) fun x7=>
 .ite x7 (
  .meth 64 [] [none] [] (gl x5 3) fun x8 x9=>
  .bind (.fld 67 x8 2) fun x10=>
  .bind (.bin .eql 9 x10 x0) fun x11=>
  .ite x11 (
  .leaf [bt] [(gl x9 3)]) (
  .meth 64 [] [none] [] (gl x9 3) fun x12 x13=>
  .bind (.fld 67 x12 0) fun x14=>
  .bind (.bin .eql 3 x14 i1) fun x15=>
  .ite x15 (
   .meth 64 [] [none] [] (gl x13 3) fun x16 x17=>
   .bind (.fld 67 x16 2) fun x18=>
   .bind (.bin .eql 9 x18 x0) fun x19=>
   .ite x19 (
   .bind (.bin .eql 9 x0 (.str [45])) fun x20=>
   .ite x20 (
    .leaf [bt] [(gl x17 3)]) (
    .bind (.bin .eql 9 x0 (.str [105,110])) fun x21=>
    .ite x21 (
    .leaf [bt] [(gl x17 3)]) (
    .bind (.bin .eql 9 x0 (.str [108,101,116])) fun x22=>
    .leaf [x22] [(gl x17 3)]))) (
   .leaf [bf] [(gl x17 3)])) (
   .leaf [bf] [(gl x13 3)]))) (
  .meth 64 [] [none] [] (gl x5 3) fun x8 x9=>
  .bind (.fld 67 x8 0) fun x10=>
  .bind (.bin .eql 3 x10 i1) fun x11=>
  .ite x11 (
  .meth 64 [] [none] [] (gl x9 3) fun x12 x13=>
  .bind (.fld 67 x12 2) fun x14=>
  .bind (.bin .eql 9 x14 x0) fun x15=>
  .ite x15 (
   .bind (.bin .eql 9 x0 (.str [45])) fun x16=>
   .ite x16 (
   .leaf [bt] [(gl x13 3)]) (
   .bind (.bin .eql 9 x0 (.str [105,110])) fun x17=>
   .ite x17 (
    .leaf [bt] [(gl x13 3)]) (
    .bind (.bin .eql 9 x0 (.str [108,101,116])) fun x18=>
    .leaf [x18] [(gl x13 3)]))) (
   .leaf [bf] [(gl x13 3)])) (
  .leaf [bf] [(gl x9 3)])):=by kernel_rfl
theorem Be8(x0 x1 x2:D):Hd C1 118 f118 (bd f118) [] [.ptr 0 0] [.cells [.dyn x0,.dyn x1,.dyn x2]]=
 .meth 63 [] [none] [] [x0,x1,x2] fun x3 x4=>
 .bind (.un .not x3) fun x5=>
 .ite x5 (
  .meth 65 [] [none] [] (gl x4 3) fun x6 x7=>
  .leaf [s0] [(gl x7 3)]) (
  .meth 64 [] [none] [] (gl x4 3) fun x6 x7=>
  .bind (.fld 67 x6 0) fun x8=>
  .bind (.bin .neq 3 x8 i1) fun x9=>
  .ite x9 (
  .meth 65 [] [none] [] (gl x7 3) fun x10 x11=>
  .leaf [s0] [(gl x11 3)]) (
  .meth 64 [] [none] [] (gl x7 3) fun x10 x11=>
  .bind (.fld 67 x10 2) fun x12=>
  .call 179 [] [x12] [] fun x13=>
  .bind (.un .not x13) fun x14=>
  .ite x14 (
   .meth 65 [] [none] [] (gl x11 3) fun x15 x16=>
   .leaf [s0] [(gl x16 3)]) (
   .bind (.bin .add 3 (gd x11 1) i1) fun x15=>
   .bind (.cell x15) fun x16=>
   .chk [x16] (
   .bind (.bin .sub 3 x16 i1) fun x17=>
   .bind (.ia 59 (gd x11 0) x17) fun x18=>
   .bind (.fa 67 x18 2) fun x19=>
   .bind (.ld 9 x19) fun x20=>
   .leaf [x20] [[(gd x11 0),x16,(gd x11 2)]])))):=by kernel_rfl
theorem Bd3(x0 x1 x2 x3:D):Hd C1 119 f119 (bd f119) [] [.ptr 0 0,.dyn x0] [.cells [.dyn x1,.dyn x2,.dyn x3]]=
 .meth 63 [] [none] [] [x1,x2,x3] fun x4 x5=>
 .ite x4 (
  .meth 117 [] [none,(some x0)] [] (gl x5 3) fun x6 x7=>
  .ite x6 (
  .bind (.bin .add 3 (gd x7 1) i1) fun x8=>
  .bind (.cell x8) fun x9=>
  .chk [x9] (
  .leaf [] [[(gd x7 0),x9,(gd x7 2)]])) (
  .meth 65 [] [none] [] (gl x7 3) fun x8 x9=>
  .leaf [] [(gl x9 3)])) (
  .meth 65 [] [none] [] (gl x5 3) fun x6 x7=>
  .leaf [] [(gl x7 3)]):=by kernel_rfl
theorem Bgw(x0 x1 x2:D):Hd C1 62 f62 (bd f62) [] [.ptr 0 0] [.cells [.dyn x0,.dyn x1,.dyn x2]]=
 .meth 63 [] [none] [] [x0,x1,x2] fun x3 x4=>
 .ite x3 (
  .meth 117 [] [none,(some (.str [108,101,116]))] [] (gl x4 3) fun x5 x6=>
  .ite x5 (
  .meth 64 [] [none] [] (gl x6 3) fun x7 x8=>
  .bind (.fld 67 x7 1) fun x9=>
  .bind (.cell x9) fun x10=>
  .chk [x10] (
  .bind (.bin .add 3 (gd x8 1) i1) fun x11=>
  .bind (.cell x11) fun x12=>
  .chk [x12] (
  .meth 118 [] [none] [] [(gd x8 0),x12,(gd x8 2)] fun x13 x14=>
  .bind (.cell x13) fun x15=>
  .chk [x15] (
  .meth 119 [] [none,(some (.str [61]))] [] (gl x14 3) fun x16 x17=>
  .meth 63 [] [none] [] (gl x17 3) fun x18 x19=>
  .ite x18 (
   .meth 62 [] [none] [] (gl x19 3) fun x20 x21=>
   .bind (.slim x20) fun x22=>
   .bind (.agg 7 x22) fun x23=>
   .bind (.app 27 .nilsl (.sl [(cl x23 7)] .exact)) fun x24=>
   .meth 119 [] [none,(some (.str [105,110]))] [] (gl x21 3) fun x25 x26=>
   .meth 63 [] [none] [] (gl x26 3) fun x27 x28=>
   .ite x27 (
   .meth 62 [] [none] [] (gl x28 3) fun x29 x30=>
   .bind (.slim x29) fun x31=>
   .bind (.agg 7 x31) fun x32=>
   .req [(i0,i0)] (
   .bind (.app1 27 x24 (.sl [(cl x32 7)] .exact)) fun x33=>
   .chk [x10,x15] (
   .leaf [.agg [(.int .i64 12),x10,bf,s0,x15,i0,x33]] [(gl x30 3)]))) (
   .chk [x10,x15] (
   .leaf [.agg [(.int .i64 12),x10,bf,s0,x15,i0,x24]] [(gl x28 3)]))) (
   .meth 119 [] [none,(some (.str [105,110]))] [] (gl x19 3) fun x20 x21=>
   .meth 63 [] [none] [] (gl x21 3) fun x22 x23=>
   .ite x22 (
   .meth 62 [] [none] [] (gl x23 3) fun x24 x25=>
   .bind (.slim x24) fun x26=>
   .bind (.agg 7 x26) fun x27=>
   .bind (.app 27 .nilsl (.sl [(cl x27 7)] .exact)) fun x28=>
   .chk [x10,x15] (
   .leaf [.agg [(.int .i64 12),x10,bf,s0,x15,i0,x28]] [(gl x25 3)])) (
   .chk [x10,x15] (
   .leaf [.agg [(.int .i64 12),x10,bf,s0,x15,i0,.nilsl]] [(gl x23 3)]))))))) (
  .meth 63 [] [none] [] (gl x6 3) fun x7 x8=>
  .ite x7 (
   .meth 120 [] [none] [] (gl x8 3) fun x9 x10=>
   .bind (.agg 7 x9) fun x11=>
   .chk (cl x11 7) (
   .chk (cl x11 7) (
   .leaf [.agg (cl x11 7)] [(gl x10 3)]))) (
   .leaf [.agg [i0,i0,bf,s0,s0,i0,.nilsl]] [(gl x8 3)]))) (
  .meth 63 [] [none] [] (gl x4 3) fun x5 x6=>
  .ite x5 (
  .meth 120 [] [none] [] (gl x6 3) fun x7 x8=>
  .bind (.agg 7 x7) fun x9=>
  .chk (cl x9 7) (
  .chk (cl x9 7) (
  .leaf [.agg (cl x9 7)] [(gl x8 3)]))) (
  .leaf [.agg [i0,i0,bf,s0,s0,i0,.nilsl]] [(gl x6 3)])):=by kernel_rfl
theorem Bfc(x0 x1 x2:D):Hd C1 120 f120 (bd f120) [{alts:= [[]],objs:= [0,1,2]}] [.ptr 0 0] [.cells [.dyn x0,.dyn x1,.dyn x2]]=
 .meth 180 [] [none] [] [x0,x1,x2] fun x3 x4=>
 .bind (.agg 7 x3) fun x5=>
 .chk (cl x5 7) (
 .loop 0 0 [(gd x4 0),(gd x4 1),(gd x4 2),i0,i0,bf,s0,s0,i0,.nilsl,(gc x5 0),(gc x5 1),(gc x5 2),(gc x5 3),(gc x5 4),(gc x5 5),(gc x5 6)] (Ca [fun x6=>
  .meth 63 [] [none] [] [(hv x6 0),(hv x6 1),(hv x6 2)] fun x7 x8=>
  .ite x7 (
  .meth 117 [] [none,(some (.str [43]))] [] (gl x8 3) fun x9 x10=>
  .ite x9 (
   .meth 64 [] [none] [] (gl x10 3) fun x11 x12=>
   .bind (.fld 67 x11 1) fun x13=>
   .bind (.bin .add 3 (gd x12 1) i1) fun x14=>
   .bind (.cell x14) fun x15=>
   .chk [x15] (
   .meth 180 [] [none] [] [(gd x12 0),x15,(gd x12 2)] fun x16 x17=>
   .bind (.agg 7 x16) fun x18=>
   .chk (cl x18 7) (
   .bind (.slm (hv x6 10)) fun x19=>
   .bind (.slm (hv x6 11)) fun x20=>
   .bind (.slm (hv x6 12)) fun x21=>
   .bind (.slm (hv x6 13)) fun x22=>
   .bind (.slm (hv x6 14)) fun x23=>
   .bind (.slm (hv x6 15)) fun x24=>
   .bind (.slm (hv x6 16)) fun x25=>
   .bind (.slm (gc x18 0)) fun x26=>
   .bind (.slm (gc x18 1)) fun x27=>
   .bind (.slm (gc x18 2)) fun x28=>
   .bind (.slm (gc x18 3)) fun x29=>
   .bind (.slm (gc x18 4)) fun x30=>
   .bind (.slm (gc x18 5)) fun x31=>
   .bind (.slm (gc x18 6)) fun x32=>
   .bind (.cell x13) fun x33=>
   .chk [x33] (
   .again 0 0 [(gd x17 0),(gd x17 1),(gd x17 2),(hv x6 3),(hv x6 4),(hv x6 5),(hv x6 6),(hv x6 7),(hv x6 8),(hv x6 9),.int .i64 3,x33,bf,s0,s0,i0,(.sl [[x19,x20,x21,x22,x23,x24,x25],[x26,x27,x28,x29,x30,x31,x32]] .exact)])))) (
   .meth 117 [] [none,(some (.str [94]))] [] (gl x10 3) fun x11 x12=>
   .ite x11 (
   .meth 64 [] [none] [] (gl x12 3) fun x13 x14=>
   .bind (.fld 67 x13 1) fun x15=>
   .bind (.bin .add 3 (gd x14 1) i1) fun x16=>
   .bind (.cell x16) fun x17=>
   .chk [x17] (
   .meth 180 [] [none] [] [(gd x14 0),x17,(gd x14 2)] fun x18 x19=>
   .bind (.agg 7 x18) fun x20=>
   .chk (cl x20 7) (
   .bind (.slm (hv x6 10)) fun x21=>
   .bind (.slm (hv x6 11)) fun x22=>
   .bind (.slm (hv x6 12)) fun x23=>
   .bind (.slm (hv x6 13)) fun x24=>
   .bind (.slm (hv x6 14)) fun x25=>
   .bind (.slm (hv x6 15)) fun x26=>
   .bind (.slm (hv x6 16)) fun x27=>
   .bind (.slm (gc x20 0)) fun x28=>
   .bind (.slm (gc x20 1)) fun x29=>
   .bind (.slm (gc x20 2)) fun x30=>
   .bind (.slm (gc x20 3)) fun x31=>
   .bind (.slm (gc x20 4)) fun x32=>
   .bind (.slm (gc x20 5)) fun x33=>
   .bind (.slm (gc x20 6)) fun x34=>
   .bind (.cell x15) fun x35=>
   .chk [x35] (
   .again 0 0 [(gd x19 0),(gd x19 1),(gd x19 2),(hv x6 3),(hv x6 4),(hv x6 5),(hv x6 6),(hv x6 7),(hv x6 8),(hv x6 9),.int .i64 4,x35,bf,s0,s0,i0,(.sl [[x21,x22,x23,x24,x25,x26,x27],[x28,x29,x30,x31,x32,x33,x34]] .exact)])))) (
   .meth 117 [] [none,(some (.str [45]))] [] (gl x12 3) fun x13 x14=>
   .ite x13 (
    .meth 64 [] [none] [] (gl x14 3) fun x15 x16=>
    .bind (.fld 67 x15 1) fun x17=>
    .bind (.bin .add 3 (gd x16 1) i1) fun x18=>
    .bind (.cell x18) fun x19=>
    .chk [x19] (
    .meth 180 [] [none] [] [(gd x16 0),x19,(gd x16 2)] fun x20 x21=>
    .bind (.agg 7 x20) fun x22=>
    .chk (cl x22 7) (
    .bind (.slm (hv x6 10)) fun x23=>
    .bind (.slm (hv x6 11)) fun x24=>
    .bind (.slm (hv x6 12)) fun x25=>
    .bind (.slm (hv x6 13)) fun x26=>
    .bind (.slm (hv x6 14)) fun x27=>
    .bind (.slm (hv x6 15)) fun x28=>
    .bind (.slm (hv x6 16)) fun x29=>
    .bind (.slm (gc x22 0)) fun x30=>
    .bind (.slm (gc x22 1)) fun x31=>
    .bind (.slm (gc x22 2)) fun x32=>
    .bind (.slm (gc x22 3)) fun x33=>
    .bind (.slm (gc x22 4)) fun x34=>
    .bind (.slm (gc x22 5)) fun x35=>
    .bind (.slm (gc x22 6)) fun x36=>
    .bind (.cell x17) fun x37=>
    .chk [x37] (
    .again 0 0 [(gd x21 0),(gd x21 1),(gd x21 2),(hv x6 3),(hv x6 4),(hv x6 5),(hv x6 6),(hv x6 7),(hv x6 8),(hv x6 9),.int .i64 5,x37,bf,s0,s0,i0,(.sl [[x23,x24,x25,x26,x27,x28,x29],[x30,x31,x32,x33,x34,x35,x36]] .exact)])))) (
    .chk [(hv x6 10),(hv x6 11),(hv x6 12),(hv x6 13),(hv x6 14),(hv x6 15),(hv x6 16)] (
    .leaf [.agg [(hv x6 10),(hv x6 11),(hv x6 12),(hv x6 13),(hv x6 14),(hv x6 15),(hv x6 16)]] [(gl x14 3)]))))) (
  .chk [(hv x6 10),(hv x6 11),(hv x6 12),(hv x6 13),(hv x6 14),(hv x6 15),(hv x6 16)] (
  .leaf [.agg [(hv x6 10),(hv x6 11),(hv x6 12),(hv x6 13),(hv x6 14),(hv x6 15),(hv x6 16)]] [(gl x8 3)]))])):=by kernel_rfl
theorem Bfe(x0 x1 x2:D):Hd C1 180 f180 (bd f180) [] [.ptr 0 0] [.cells [.dyn x0,.dyn x1,.dyn x2]]=
 .meth 64 [] [none] [] [x0,x1,x2] fun x3 x4=>
 .bind (.agg 3 x3) fun x5=>
 .chk (cl x5 3) (
 .meth 63 [] [none] [] (gl x4 3) fun x6 x7=>
 .bind (.un .not x6) fun x8=>
 .ite x8 (
  .meth 118 [] [none] [] (gl x7 3) fun x9 x10=>
  .bind (.cell x9) fun x11=>
  .bind (.cell (gc x5 1)) fun x12=>
  .chk [x12,x11] (
  .leaf [.agg [i1,x12,bf,x11,s0,i0,.nilsl]] [(gl x10 3)])) (
  .meth 117 [] [none,(some (.str [58]))] [] (gl x7 3) fun x9 x10=>
  .ite x9 (
  .bind (.bin .add 3 (gd x10 1) i1) fun x11=>
  .bind (.cell x11) fun x12=>
  .chk [x12] (
  .meth 118 [] [none] [] [(gd x10 0),x12,(gd x10 2)] fun x13 x14=>
  .bind (.cell x13) fun x15=>
  .bind (.cell (gc x5 1)) fun x16=>
  .chk [x16,x15] (
  .leaf [.agg [i1,x16,bt,x15,s0,i0,.nilsl]] [(gl x14 3)]))) (
  .meth 117 [] [none,(some (.str [36]))] [] (gl x10 3) fun x11 x12=>
  .ite x11 (
   .bind (.bin .add 3 (gd x12 1) i1) fun x13=>
   .bind (.cell x13) fun x14=>
   .chk [x14] (
   .meth 118 [] [none] [] [(gd x12 0),x14,(gd x12 2)] fun x15 x16=>
   .bind (.cell (gc x5 1)) fun x17=>
   .bind (.cell x15) fun x18=>
   .chk [x17,x18] (
   .leaf [.agg [(.int .i64 2),x17,bf,s0,x18,i0,.nilsl]] [(gl x16 3)]))) (
   .meth 117 [] [none,(some (.str [40]))] [] (gl x12 3) fun x13 x14=>
   .ite x13 (
   .bind (.bin .add 3 (gd x14 1) i1) fun x15=>
   .bind (.cell x15) fun x16=>
   .chk [x16] (
   .meth 62 [] [none] [] [(gd x14 0),x16,(gd x14 2)] fun x17 x18=>
   .bind (.agg 7 x17) fun x19=>
   .chk (cl x19 7) (
   .meth 119 [] [none,(some (.str [41]))] [] (gl x18 3) fun x20 x21=>
   .chk (cl x19 7) (
   .leaf [.agg (cl x19 7)] [(gl x21 3)])))) (
   .bind (.bin .eql 3 (gc x5 0) i1) fun x15=>
   .ite x15 (
    .bind (.bin .neq 9 (gc x5 2) (.str [108,101,116])) fun x16=>
    .ite x16 (
    .call 223 [] [] [] fun x17=>
    .call 222 [] [x17,(gc x5 2)] [] fun x18=>
    .bind (.bin .geq 3 x18 i0) fun x19=>
    .ite x19 (
     .bind (.bin .add 3 (gd x14 1) i1) fun x20=>
     .bind (.cell x20) fun x21=>
     .chk [x21] (
     .meth 119 [] [none,(some (.str [40]))] [] [(gd x14 0),x21,(gd x14 2)] fun x22 x23=>
     .meth 224 [] [none,(some (.agg (cl x5 3)))] [] (gl x23 3) fun x24 x25=>
     .bind (.agg 7 x24) fun x26=>
     .chk (cl x26 7) (
     .leaf [.agg (cl x26 7)] [(gl x25 3)]))) (
     .meth 118 [] [none] [] (gl x14 3) fun x20 x21=>
     .bind (.cell x20) fun x22=>
     .bind (.cell (gc x5 1)) fun x23=>
     .chk [x23,x22] (
     .leaf [.agg [i1,x23,bf,x22,s0,i0,.nilsl]] [(gl x21 3)]))) (
    .meth 118 [] [none] [] (gl x14 3) fun x17 x18=>
    .bind (.cell x17) fun x19=>
    .bind (.cell (gc x5 1)) fun x20=>
    .chk [x20,x19] (
    .leaf [.agg [i1,x20,bf,x19,s0,i0,.nilsl]] [(gl x18 3)]))) (
    .meth 118 [] [none] [] (gl x14 3) fun x16 x17=>
    .bind (.cell x16) fun x18=>
    .bind (.cell (gc x5 1)) fun x19=>
    .chk [x19,x18] (
    .leaf [.agg [i1,x19,bf,x18,s0,i0,.nilsl]] [(gl x17 3)]))))))):=by kernel_rfl
theorem Bem(x0 x1 x2 x3:D):Hd C1 224 Tryz.f224 (bd Tryz.f224) [] [.ptr 0 0,.dyn x0] [.cells [.dyn x1,.dyn x2,.dyn x3]]=
 .bind (.agg 3 x0) fun x4=>
 .bind (.cell (gc x4 1)) fun x5=>
 .chk [x5] (
 .bind (.bin .eql 9 (gc x4 2) (.str [100,101,112,115])) fun x6=>
 .ite x6 (
  .meth 260 [] [none,(some i1)] [] [x1,x2,x3] fun x7 x8=>
  .bind (.cell x7) fun x9=>
  .chk [x9] (
  .meth 63 [] [none] [] (gl x8 3) fun x10 x11=>
  .ite x10 (
  .meth 117 [] [none,(some (.str [44]))] [] (gl x11 3) fun x12 x13=>
  .ite x12 (
   .bind (.bin .add 3 (gd x13 1) i1) fun x14=>
   .bind (.cell x14) fun x15=>
   .chk [x15] (
   .meth 64 [] [none] [] [(gd x13 0),x15,(gd x13 2)] fun x16 x17=>
   .bind (.fld 67 x16 2) fun x18=>
   .call 261 [] [x18,.int .i64 1000] [] fun x19=>
   .bind (.ext x19 0) fun x20=>
   .bind (.ext x19 1) fun x21=>
   .meth 64 [] [none] [] (gl x17 3) fun x22 x23=>
   .bind (.fld 67 x22 0) fun x24=>
   .bind (.bin .neq 3 x24 i1) fun x25=>
   .ite x25 (
   .meth 65 [] [none] [] (gl x23 3) fun x26 x27=>
   .meth 119 [] [none,(some (.str [41]))] [] (gl x27 3) fun x28 x29=>
   .chk [x5,x9] (
   .leaf [.agg [(.int .i64 6),x5,bf,s0,s0,.int .i64 (-1),x9]] [(gl x29 3)])) (
   .bind (.un .not x21) fun x26=>
   .ite x26 (
    .meth 65 [] [none] [] (gl x23 3) fun x27 x28=>
    .meth 119 [] [none,(some (.str [41]))] [] (gl x28 3) fun x29 x30=>
    .chk [x5,x9] (
    .leaf [.agg [(.int .i64 6),x5,bf,s0,s0,.int .i64 (-1),x9]] [(gl x30 3)])) (
    .bind (.cell x20) fun x27=>
    .chk [x27] (
    .bind (.bin .add 3 (gd x23 1) i1) fun x28=>
    .bind (.cell x28) fun x29=>
    .chk [x29] (
    .meth 119 [] [none,(some (.str [41]))] [] [(gd x23 0),x29,(gd x23 2)] fun x30 x31=>
    .chk [x5,x27,x9] (
    .leaf [.agg [(.int .i64 6),x5,bf,s0,s0,x27,x9]] [(gl x31 3)]))))))) (
   .meth 119 [] [none,(some (.str [41]))] [] (gl x13 3) fun x14 x15=>
   .chk [x5,x9] (
   .leaf [.agg [(.int .i64 6),x5,bf,s0,s0,.int .i64 (-1),x9]] [(gl x15 3)]))) (
  .meth 119 [] [none,(some (.str [41]))] [] (gl x11 3) fun x12 x13=>
  .chk [x5,x9] (
  .leaf [.agg [(.int .i64 6),x5,bf,s0,s0,.int .i64 (-1),x9]] [(gl x13 3)])))) (
  .bind (.bin .eql 9 (gc x4 2) (.str [114,100,101,112,115])) fun x7=>
  .ite x7 (
  .meth 260 [] [none,(some i1)] [] [x1,x2,x3] fun x8 x9=>
  .bind (.cell x8) fun x10=>
  .chk [x10] (
  .meth 119 [] [none,(some (.str [41]))] [] (gl x9 3) fun x11 x12=>
  .chk [x5,x10] (
  .leaf [.agg [(.int .i64 7),x5,bf,s0,s0,i0,x10]] [(gl x12 3)]))) (
  .bind (.bin .eql 9 (gc x4 2) (.str [115,111,109,101,112,97,116,104])) fun x8=>
  .ite x8 (
   .meth 260 [] [none,(some (.int .i64 2))] [] [x1,x2,x3] fun x9 x10=>
   .bind (.cell x9) fun x11=>
   .chk [x11] (
   .meth 119 [] [none,(some (.str [41]))] [] (gl x10 3) fun x12 x13=>
   .chk [x5,x11] (
   .leaf [.agg [(.int .i64 8),x5,bf,s0,s0,i0,x11]] [(gl x13 3)]))) (
   .bind (.bin .eql 9 (gc x4 2) (.str [97,108,108,112,97,116,104,115])) fun x9=>
   .ite x9 (
   .meth 260 [] [none,(some (.int .i64 2))] [] [x1,x2,x3] fun x10 x11=>
   .bind (.cell x10) fun x12=>
   .chk [x12] (
   .meth 119 [] [none,(some (.str [41]))] [] (gl x11 3) fun x13 x14=>
   .chk [x5,x12] (
   .leaf [.agg [(.int .i64 9),x5,bf,s0,s0,i0,x12]] [(gl x14 3)]))) (
   .bind (.bin .eql 9 (gc x4 2) (.str [107,105,110,100])) fun x10=>
   .ite x10 (
    .meth 64 [] [none] [] [x1,x2,x3] fun x11 x12=>
    .bind (.agg 3 x11) fun x13=>
    .chk (cl x13 3) (
    .meth 63 [] [none] [] (gl x12 3) fun x14 x15=>
    .ite x14 (
    .bind (.bin .eql 3 (gc x13 0) i1) fun x16=>
    .ite x16 (
     .bind (.bin .eql 9 (gc x13 2) (.str [114,117,108,101])) fun x17=>
     .ite x17 (
     .bind (.cell (gc x13 2)) fun x18=>
     .chk [x18] (
     .bind (.bin .add 3 (gd x15 1) i1) fun x19=>
     .bind (.cell x19) fun x20=>
     .chk [x20] (
     .meth 119 [] [none,(some (.str [44]))] [] [(gd x15 0),x20,(gd x15 2)] fun x21 x22=>
     .meth 260 [] [none,(some i1)] [] (gl x22 3) fun x23 x24=>
     .bind (.cell x23) fun x25=>
     .chk [x25] (
     .meth 119 [] [none,(some (.str [41]))] [] (gl x24 3) fun x26 x27=>
     .chk [x5,x18,x25] (
     .leaf [.agg [(.int .i64 10),x5,bf,s0,x18,i0,x25]] [(gl x27 3)]))))) (
     .bind (.bin .eql 9 (gc x13 2) (.str [109,97,100,101])) fun x18=>
     .ite x18 (
      .bind (.cell (gc x13 2)) fun x19=>
      .chk [x19] (
      .bind (.bin .add 3 (gd x15 1) i1) fun x20=>
      .bind (.cell x20) fun x21=>
      .chk [x21] (
      .meth 119 [] [none,(some (.str [44]))] [] [(gd x15 0),x21,(gd x15 2)] fun x22 x23=>
      .meth 260 [] [none,(some i1)] [] (gl x23 3) fun x24 x25=>
      .bind (.cell x24) fun x26=>
      .chk [x26] (
      .meth 119 [] [none,(some (.str [41]))] [] (gl x25 3) fun x27 x28=>
      .chk [x5,x19,x26] (
      .leaf [.agg [(.int .i64 10),x5,bf,s0,x19,i0,x26]] [(gl x28 3)]))))) (
      .bind (.bin .eql 9 (gc x13 2) (.str [115,111,117,114,99,101])) fun x19=>
      .ite x19 (
      .bind (.cell (gc x13 2)) fun x20=>
      .chk [x20] (
      .bind (.bin .add 3 (gd x15 1) i1) fun x21=>
      .bind (.cell x21) fun x22=>
      .chk [x22] (
      .meth 119 [] [none,(some (.str [44]))] [] [(gd x15 0),x22,(gd x15 2)] fun x23 x24=>
      .meth 260 [] [none,(some i1)] [] (gl x24 3) fun x25 x26=>
      .bind (.cell x25) fun x27=>
      .chk [x27] (
      .meth 119 [] [none,(some (.str [41]))] [] (gl x26 3) fun x28 x29=>
      .chk [x5,x20,x27] (
      .leaf [.agg [(.int .i64 10),x5,bf,s0,x20,i0,x27]] [(gl x29 3)]))))) (
      .meth 65 [] [none] [] (gl x15 3) fun x20 x21=>
      .meth 119 [] [none,(some (.str [44]))] [] (gl x21 3) fun x22 x23=>
      .meth 260 [] [none,(some i1)] [] (gl x23 3) fun x24 x25=>
      .bind (.cell x24) fun x26=>
      .chk [x26] (
      .meth 119 [] [none,(some (.str [41]))] [] (gl x25 3) fun x27 x28=>
      .chk [x5,x26] (
      .leaf [.agg [(.int .i64 10),x5,bf,s0,s0,i0,x26]] [(gl x28 3)])))))) (
     .meth 65 [] [none] [] (gl x15 3) fun x17 x18=>
     .meth 119 [] [none,(some (.str [44]))] [] (gl x18 3) fun x19 x20=>
     .meth 260 [] [none,(some i1)] [] (gl x20 3) fun x21 x22=>
     .bind (.cell x21) fun x23=>
     .chk [x23] (
     .meth 119 [] [none,(some (.str [41]))] [] (gl x22 3) fun x24 x25=>
     .chk [x5,x23] (
     .leaf [.agg [(.int .i64 10),x5,bf,s0,s0,i0,x23]] [(gl x25 3)])))) (
    .meth 65 [] [none] [] (gl x15 3) fun x16 x17=>
    .meth 119 [] [none,(some (.str [44]))] [] (gl x17 3) fun x18 x19=>
    .meth 260 [] [none,(some i1)] [] (gl x19 3) fun x20 x21=>
    .bind (.cell x20) fun x22=>
    .chk [x22] (
    .meth 119 [] [none,(some (.str [41]))] [] (gl x21 3) fun x23 x24=>
    .chk [x5,x22] (
    .leaf [.agg [(.int .i64 10),x5,bf,s0,s0,i0,x22]] [(gl x24 3)]))))) (
    .bind (.bin .eql 9 (gc x4 2) (.str [102,105,108,116,101,114])) fun x11=>
    .ite x11 (
    .meth 63 [] [none] [] [x1,x2,x3] fun x12 x13=>
    .ite x12 (
     .meth 64 [] [none] [] (gl x13 3) fun x14 x15=>
     .bind (.fld 67 x14 0) fun x16=>
     .bind (.bin .eql 3 x16 (.int .i64 2)) fun x17=>
     .ite x17 (
     .meth 64 [] [none] [] (gl x15 3) fun x18 x19=>
     .bind (.fld 67 x18 2) fun x20=>
     .bind (.cell x20) fun x21=>
     .chk [x21] (
     .bind (.bin .add 3 (gd x19 1) i1) fun x22=>
     .bind (.cell x22) fun x23=>
     .chk [x23] (
     .meth 119 [] [none,(some (.str [44]))] [] [(gd x19 0),x23,(gd x19 2)] fun x24 x25=>
     .meth 260 [] [none,(some i1)] [] (gl x25 3) fun x26 x27=>
     .bind (.cell x26) fun x28=>
     .chk [x28] (
     .meth 119 [] [none,(some (.str [41]))] [] (gl x27 3) fun x29 x30=>
     .chk [x5,x21,x28] (
     .leaf [.agg [(.int .i64 11),x5,bf,s0,x21,i0,x28]] [(gl x30 3)]))))) (
     .meth 65 [] [none] [] (gl x15 3) fun x18 x19=>
     .meth 119 [] [none,(some (.str [44]))] [] (gl x19 3) fun x20 x21=>
     .meth 260 [] [none,(some i1)] [] (gl x21 3) fun x22 x23=>
     .bind (.cell x22) fun x24=>
     .chk [x24] (
     .meth 119 [] [none,(some (.str [41]))] [] (gl x23 3) fun x25 x26=>
     .chk [x5,x24] (
     .leaf [.agg [(.int .i64 11),x5,bf,s0,s0,i0,x24]] [(gl x26 3)])))) (
     .meth 65 [] [none] [] (gl x13 3) fun x14 x15=>
     .meth 119 [] [none,(some (.str [44]))] [] (gl x15 3) fun x16 x17=>
     .meth 260 [] [none,(some i1)] [] (gl x17 3) fun x18 x19=>
     .bind (.cell x18) fun x20=>
     .chk [x20] (
     .meth 119 [] [none,(some (.str [41]))] [] (gl x19 3) fun x21 x22=>
     .chk [x5,x20] (
     .leaf [.agg [(.int .i64 11),x5,bf,s0,s0,i0,x20]] [(gl x22 3)])))) (
    .bind (.bin .eql 9 (gc x4 2) (.str [97,108,108])) fun x12=>
    .ite x12 (
     .meth 119 [] [none,(some (.str [41]))] [] [x1,x2,x3] fun x13 x14=>
     .chk [x5] (
     .leaf [.agg [(.int .i64 13),x5,bf,s0,s0,i0,.nilsl]] [(gl x14 3)])) (
     .meth 119 [] [none,(some (.str [41]))] [] [x1,x2,x3] fun x13 x14=>
     .chk [x5] (
     .leaf [.agg [i0,x5,bf,s0,s0,i0,.nilsl]] [(gl x14 3)]))))))))):=by kernel_rfl
theorem Bd0(x0 x1 x2 x3:D):Hd C1 260 Tryz.f260 (bd Tryz.f260) [{alts:= [[],[5]],objs:= [0]}] [.ptr 0 0,.dyn x0] [.cells [.dyn x1,.dyn x2,.dyn x3]]=
 .loop 0 0 [i0,x1,x2,x3] (Ca [fun x4=>
  .bind (.bin .lss 3 (hv x4 0) x0) fun x5=>
  .ite x5 (
  .meth 63 [] [none] [] [(hv x4 1),(hv x4 2),(hv x4 3)] fun x6 x7=>
  .ite x6 (
   .bind (.bin .gtr 3 (hv x4 0) i0) fun x8=>
   .ite x8 (
   .meth 119 [] [none,(some (.str [44]))] [] (gl x7 3) fun x9 x10=>
   .meth 63 [] [none] [] (gl x10 3) fun x11 x12=>
   .ite x11 (
    .meth 62 [] [none] [] (gl x12 3) fun x13 x14=>
    .bind (.slim x13) fun x15=>
    .bind (.agg 7 x15) fun x16=>
    .bind (.app 27 .nilsl (.sl [(cl x16 7)] .exact)) fun x17=>
    .bind (.bin .add 3 (hv x4 0) i1) fun x18=>
    .req [(i0,i0)] (
    .again 0 1 [x17,i0,x18,(gd x14 0),(gd x14 1),(gd x14 2)])) (
    .bind (.bin .add 3 (hv x4 0) i1) fun x13=>
    .again 0 0 [x13,(gd x12 0),(gd x12 1),(gd x12 2)])) (
   .meth 63 [] [none] [] (gl x7 3) fun x9 x10=>
   .ite x9 (
    .meth 62 [] [none] [] (gl x10 3) fun x11 x12=>
    .bind (.slim x11) fun x13=>
    .bind (.agg 7 x13) fun x14=>
    .bind (.app 27 .nilsl (.sl [(cl x14 7)] .exact)) fun x15=>
    .bind (.bin .add 3 (hv x4 0) i1) fun x16=>
    .req [(i0,i0)] (
    .again 0 1 [x15,i0,x16,(gd x12 0),(gd x12 1),(gd x12 2)])) (
    .bind (.bin .add 3 (hv x4 0) i1) fun x11=>
    .again 0 0 [x11,(gd x10 0),(gd x10 1),(gd x10 2)]))) (
   .leaf [.nilsl] [(gl x7 3)])) (
  .leaf [.nilsl] [[(hv x4 1),(hv x4 2),(hv x4 3)]]),fun x4=>
  .bind (.bin .lss 3 (hv x4 2) x0) fun x5=>
  .ite x5 (
  .meth 63 [] [none] [] [(hv x4 3),(hv x4 4),(hv x4 5)] fun x6 x7=>
  .ite x6 (
   .bind (.bin .gtr 3 (hv x4 2) i0) fun x8=>
   .ite x8 (
   .meth 119 [] [none,(some (.str [44]))] [] (gl x7 3) fun x9 x10=>
   .meth 63 [] [none] [] (gl x10 3) fun x11 x12=>
   .ite x11 (
    .meth 62 [] [none] [] (gl x12 3) fun x13 x14=>
    .bind (.slim x13) fun x15=>
    .bind (.agg 7 x15) fun x16=>
    .req [((.int .i64 (((gD (hv x4 1)):Nat):Int)),(.int .i64 (((gD (hv x4 1)):Nat):Int)))] (
    .bind (.app1 27 (hv x4 0) (.sl [(cl x16 7)] .exact)) fun x17=>
    .bind (.bin .add 3 (hv x4 2) i1) fun x18=>
    .req [((.int .i64 (((gD (hv x4 1)+1):Nat):Int)),(.int .i64 (((gD (hv x4 1)+1):Nat):Int)))] (
    .again 0 1 [x17,(.int .i64 (((gD (hv x4 1)+1):Nat):Int)),x18,(gd x14 0),(gd x14 1),(gd x14 2)]))) (
    .bind (.bin .add 3 (hv x4 2) i1) fun x13=>
    .req [((.int .i64 (((gD (hv x4 1)):Nat):Int)),(.int .i64 (((gD (hv x4 1)):Nat):Int)))] (
    .again 0 1 [(hv x4 0),(.int .i64 (((gD (hv x4 1)):Nat):Int)),x13,(gd x12 0),(gd x12 1),(gd x12 2)]))) (
   .meth 63 [] [none] [] (gl x7 3) fun x9 x10=>
   .ite x9 (
    .meth 62 [] [none] [] (gl x10 3) fun x11 x12=>
    .bind (.slim x11) fun x13=>
    .bind (.agg 7 x13) fun x14=>
    .req [((.int .i64 (((gD (hv x4 1)):Nat):Int)),(.int .i64 (((gD (hv x4 1)):Nat):Int)))] (
    .bind (.app1 27 (hv x4 0) (.sl [(cl x14 7)] .exact)) fun x15=>
    .bind (.bin .add 3 (hv x4 2) i1) fun x16=>
    .req [((.int .i64 (((gD (hv x4 1)+1):Nat):Int)),(.int .i64 (((gD (hv x4 1)+1):Nat):Int)))] (
    .again 0 1 [x15,(.int .i64 (((gD (hv x4 1)+1):Nat):Int)),x16,(gd x12 0),(gd x12 1),(gd x12 2)]))) (
    .bind (.bin .add 3 (hv x4 2) i1) fun x11=>
    .req [((.int .i64 (((gD (hv x4 1)):Nat):Int)),(.int .i64 (((gD (hv x4 1)):Nat):Int)))] (
    .again 0 1 [(hv x4 0),(.int .i64 (((gD (hv x4 1)):Nat):Int)),x11,(gd x10 0),(gd x10 1),(gd x10 2)])))) (
   .leaf [(hv x4 0)] [(gl x7 3)])) (
  .leaf [(hv x4 0)] [[(hv x4 3),(hv x4 4),(hv x4 5)]])]):=by kernel_rfl
theorem Bfi:Hd C1 223 f223 (bd f223) [] [] []=
 .leaf [(.sl [[.str [108,101,116]],[.str [100,101,112,115]],[.str [114,100,101,112,115]],[.str [115,111,109,101,112,97,116,104]],[.str [97,108,108,112,97,116,104,115]],[.str [107,105,110,100]],[.str [102,105,108,116,101,114]],[.str [97,108,108]]] .exact)] []:=by kernel_rfl
theorem Bhe(x0:D):Hd C1 27 Tryz.f27 (bd Tryz.f27) [] [.dyn x0] []=
 .bind (.ln 9 x0) fun x1=>
 .bind (.bin .gtr 3 x1 (.int .i64 400)) fun x2=>
 .ite x2 (
  .leaf [.agg [i0,i0,bf,s0,s0,i0,.nilsl],.agg [.int .i64 4,im]] []) (
  .call 61 [] [x0] [] fun x3=>
  .bind (.ext x3 0) fun x4=>
  .bind (.ext x3 1) fun x5=>
  .bind (.agg 2 x5) fun x6=>
  .chk (cl x6 2) (
  .bind (.bin .neq 30 (gc x6 0) i0) fun x7=>
  .ite x7 (
  .chk (cl x6 2) (
  .leaf [.agg [i0,i0,bf,s0,s0,i0,.nilsl],.agg (cl x6 2)] [])) (
  .bind (.cell x4) fun x8=>
  .meth 62 [] [none] [] [x8,i0,.int .i64 (-1)] fun x9 x10=>
  .bind (.agg 7 x9) fun x11=>
  .chk (cl x11 7) (
  .meth 63 [] [none] [] (gl x10 3) fun x12 x13=>
  .ite x12 (
   .meth 64 [] [none] [] (gl x13 3) fun x14 x15=>
   .bind (.fld 67 x14 0) fun x16=>
   .bind (.bin .neq 3 x16 (.int .i64 4)) fun x17=>
   .ite x17 (
   .meth 65 [] [none] [] (gl x15 3) fun x18 x19=>
   .meth 63 [] [none] [] (gl x19 3) fun x20 x21=>
   .bind (.un .not x20) fun x22=>
   .ite x22 (
    .bind (.cell (gd x21 2)) fun x23=>
    .chk [x23] (
    .leaf [.agg [i0,i0,bf,s0,s0,i0,.nilsl],.agg [i1,x23]] [])) (
    .call 16 [] [.agg (cl x11 7)] [] fun x23=>
    .bind (.bin .gtr 3 x23 (.int .i64 30)) fun x24=>
    .ite x24 (
    .leaf [.agg [i0,i0,bf,s0,s0,i0,.nilsl],.agg [.int .i64 4,im]] []) (
    .chk (cl x11 7) (
    .leaf [.agg (cl x11 7),.agg [i0,i0]] [])))) (
   .meth 63 [] [none] [] (gl x15 3) fun x18 x19=>
   .bind (.un .not x18) fun x20=>
   .ite x20 (
    .bind (.cell (gd x19 2)) fun x21=>
    .chk [x21] (
    .leaf [.agg [i0,i0,bf,s0,s0,i0,.nilsl],.agg [i1,x21]] [])) (
    .call 16 [] [.agg (cl x11 7)] [] fun x21=>
    .bind (.bin .gtr 3 x21 (.int .i64 30)) fun x22=>
    .ite x22 (
    .leaf [.agg [i0,i0,bf,s0,s0,i0,.nilsl],.agg [.int .i64 4,im]] []) (
    .chk (cl x11 7) (
    .leaf [.agg (cl x11 7),.agg [i0,i0]] []))))) (
   .meth 63 [] [none] [] (gl x13 3) fun x14 x15=>
   .bind (.un .not x14) fun x16=>
   .ite x16 (
   .bind (.cell (gd x15 2)) fun x17=>
   .chk [x17] (
   .leaf [.agg [i0,i0,bf,s0,s0,i0,.nilsl],.agg [i1,x17]] [])) (
   .call 16 [] [.agg (cl x11 7)] [] fun x17=>
   .bind (.bin .gtr 3 x17 (.int .i64 30)) fun x18=>
   .ite x18 (
    .leaf [.agg [i0,i0,bf,s0,s0,i0,.nilsl],.agg [.int .i64 4,im]] []) (
    .chk (cl x11 7) (
    .leaf [.agg (cl x11 7),.agg [i0,i0]] [])))))))):=by kernel_rfl
theorem Bh8(x0:D):Hd C1 16 Tryz.f16 (bd Tryz.f16) [] [.dyn x0] []=
 .bind (.agg 7 x0) fun x1=>
 .req [((gc x1 0),(gc x1 0)),((gc x1 1),(gc x1 1)),((gc x1 2),(gc x1 2)),((gc x1 3),(gc x1 3)),((gc x1 4),(gc x1 4)),((gc x1 5),(gc x1 5)),((gc x1 6),(gc x1 6))] (
 .loop 0 0 [i0,i0] (Ca [fun x2=>
  .bind (.ln 27 (gc x1 6)) fun x3=>
  .bind (.bin .lss 3 (hv x2 1) x3) fun x4=>
  .ite x4 (
  .bind (.ia 27 (gc x1 6) (hv x2 1)) fun x5=>
  .bind (.ld 29 x5) fun x6=>
  .call 16 [] [x6] [] fun x7=>
  .bind (.mx (hv x2 0) [x7]) fun x8=>
  .bind (.bin .add 3 (hv x2 1) i1) fun x9=>
  .req [((gc x1 0),(gc x1 0)),((gc x1 1),(gc x1 1)),((gc x1 2),(gc x1 2)),((gc x1 3),(gc x1 3)),((gc x1 4),(gc x1 4)),((gc x1 5),(gc x1 5)),((gc x1 6),(gc x1 6))] (
  .again 0 0 [x8,x9])) (
  .bind (.bin .add 3 (hv x2 0) i1) fun x5=>
  .leaf [x5] [])])):=by kernel_rfl
theorem Bdp(x0:D):Hd C1 179 f179 (bd f179) [] [.dyn x0] []=
 .call 221 [] [x0] [] fun x1=>
 .ite x1 (
  .call 223 [] [] [] fun x2=>
  .call 222 [] [x2,x0] [] fun x3=>
  .bind (.bin .lss 3 x3 i0) fun x4=>
  .ite x4 (
  .bind (.bin .neq 9 x0 (.str [45])) fun x5=>
  .leaf [x5] []) (
  .leaf [bf] [])) (
  .leaf [bf] []):=by kernel_rfl
theorem Bel(x0 x1:D):Hd C1 222 f222 (bd f222) [] [.dyn x0,.dyn x1] []=
 .loop 0 0 [i0,i0] (Ca [fun x2=>
  .bind (.ln 41 x0) fun x3=>
  .bind (.bin .lss 3 (hv x2 1) x3) fun x4=>
  .ite x4 (
  .bind (.ia 41 x0 (hv x2 1)) fun x5=>
  .bind (.ld 9 x5) fun x6=>
  .bind (.bin .eql 9 x6 x1) fun x7=>
  .ite x7 (
   .leaf [(hv x2 1)] []) (
   .bind (.bin .add 3 (hv x2 1) i1) fun x8=>
   .again 0 0 [(hv x2 0),x8])) (
  .leaf [.int .i64 (-1)] [])]):=by kernel_rfl
theorem Bdr(x0 x1:D):Hd C1 261 f261 (bd f261) [{alts:= [[]],objs:= [],joins:= [8]}] [.dyn x0,.dyn x1] []=
 .loop 0 0 [i0,bf,i0,i0] (Ca [fun x2=>
  .bind (.ln 9 x0) fun x3=>
  .bind (.bin .lss 3 (hv x2 3) x3) fun x4=>
  .ite x4 (
  .bind (.idx 9 x0 (hv x2 3)) fun x5=>
  .bind (.bin .lss 5 x5 (.int .u8 48)) fun x6=>
  .ite x6 (
   .leaf [i0,bf] []) (
   .bind (.idx 9 x0 (hv x2 3)) fun x7=>
   .bind (.bin .gtr 5 x7 (.int .u8 57)) fun x8=>
   .ite x8 (
   .leaf [i0,bf] []) (
   .bind (.idx 9 x0 (hv x2 3)) fun x9=>
   .bind (.bin .sub 5 x9 (.int .u8 48)) fun x10=>
   .bind (.conv 5 3 x10) fun x11=>
   .bind (.bin .sub 3 (.int .i64 9223372036854775807) x11) fun x12=>
   .bind (.bin .quo 3 x12 (.int .i64 10)) fun x13=>
   .bind (.bin .gtr 3 (hv x2 2) x13) fun x14=>
   .ite x14 (
    .leaf [i0,bf] []) (
    .bind (.bin .mul 3 (hv x2 2) (.int .i64 10)) fun x15=>
    .bind (.idx 9 x0 (hv x2 3)) fun x16=>
    .bind (.bin .sub 5 x16 (.int .u8 48)) fun x17=>
    .bind (.conv 5 3 x17) fun x18=>
    .bind (.bin .add 3 x15 x18) fun x19=>
    .bind (.bin .add 3 (hv x2 3) i1) fun x20=>
    .again 0 0 [(hv x2 0),(hv x2 1),x19,x20])))) (
  .joi (
   .bind (.bin .eql 9 x0 s0) fun x5=>
   .ite x5 (
   .leaf [bt] []) (
   .bind (.ln 9 x0) fun x6=>
   .bind (.bin .gtr 3 x6 i1) fun x7=>
   .ite x7 (
    .bind (.idx 9 x0 i0) fun x8=>
    .bind (.bin .eql 5 x8 (.int .u8 48)) fun x9=>
    .ite x9 (
    .leaf [bt] []) (
    .bind (.bin .gtr 3 (hv x2 2) x1) fun x10=>
    .leaf [x10] [])) (
    .bind (.bin .gtr 3 (hv x2 2) x1) fun x8=>
    .leaf [x8] []))) fun x5=>
  .ite x5 (
   .leaf [i0,bf] []) (
   .leaf [(hv x2 2),bt] []))]):=by kernel_rfl
theorem Bc8(x0:D):Hd C1 221 Tryz.f221 (bd Tryz.f221) [{alts:= [[]],objs:= [],joins:= [1,7]}] [.dyn x0] []=
 .joi (
  .bind (.ln 9 x0) fun x1=>
  .bind (.bin .lss 3 x1 i1) fun x2=>
  .ite x2 (
  .leaf [bt] []) (
  .bind (.ln 9 x0) fun x3=>
  .bind (.bin .gtr 3 x3 (.int .i64 40)) fun x4=>
  .ite x4 (
   .leaf [bt] []) (
   .bind (.bin .eql 9 x0 (.str [114,117,108,101])) fun x5=>
   .ite x5 (
   .leaf [bt] []) (
   .bind (.bin .eql 9 x0 (.str [105,110])) fun x6=>
   .ite x6 (
    .leaf [bt] []) (
    .bind (.bin .eql 9 x0 (.str [111,117,116])) fun x7=>
    .ite x7 (
    .leaf [bt] []) (
    .bind (.bin .eql 9 x0 (.str [97,102,116,101,114])) fun x8=>
    .leaf [x8] [])))))) fun x1=>
 .ite x1 (
  .leaf [bf] []) (
  .call 259 [] [x0] [] fun x2=>
  .loop 0 0 [bf,i0] (Ca [fun x3=>
  .bind (.ln 41 x2) fun x4=>
  .bind (.bin .lss 3 (hv x3 1) x4) fun x5=>
  .ite x5 (
   .joi (
   .bind (.ia 41 x2 (hv x3 1)) fun x6=>
   .bind (.ld 9 x6) fun x7=>
   .bind (.bin .eql 9 x7 s0) fun x8=>
   .ite x8 (
    .leaf [bt] []) (
    .bind (.ia 41 x2 (hv x3 1)) fun x9=>
    .bind (.ld 9 x9) fun x10=>
    .bind (.bin .eql 9 x10 (.str [46])) fun x11=>
    .ite x11 (
    .leaf [bt] []) (
    .bind (.ia 41 x2 (hv x3 1)) fun x12=>
    .bind (.ld 9 x12) fun x13=>
    .bind (.bin .eql 9 x13 (.str [46,46])) fun x14=>
    .leaf [x14] []))) fun x6=>
   .ite x6 (
   .leaf [bf] []) (
   .loop 1 0 [(hv x3 0),i0] (Ca [fun x7=>
    .bind (.ia 41 x2 (hv x3 1)) fun x8=>
    .bind (.ld 9 x8) fun x9=>
    .bind (.ln 9 x9) fun x10=>
    .bind (.bin .lss 3 (hv x7 1) x10) fun x11=>
    .ite x11 (
    .bind (.ia 41 x2 (hv x3 1)) fun x12=>
    .bind (.ld 9 x12) fun x13=>
    .bind (.idx 9 x13 (hv x7 1)) fun x14=>
    .call 115 [] [x14] [] fun x15=>
    .bind (.un .not x15) fun x16=>
    .ite x16 (
     .leaf [bf] []) (
     .bind (.bin .add 3 (hv x7 1) i1) fun x17=>
     .again 1 0 [(hv x7 0),x17])) (
    .bind (.bin .add 3 (hv x3 1) i1) fun x12=>
    .again 0 0 [(hv x7 0),x12])]))) (
   .leaf [bt] [])])):=by kernel_rfl
theorem Bda(x0:D):Hd C1 115 f115 (bd f115) [] [.dyn x0] []=
 .bind (.bin .geq 5 x0 (.int .u8 97)) fun x1=>
 .ite x1 (
  .bind (.bin .leq 5 x0 (.int .u8 122)) fun x2=>
  .ite x2 (
  .leaf [bt] []) (
  .bind (.bin .geq 5 x0 (.int .u8 65)) fun x3=>
  .ite x3 (
   .bind (.bin .leq 5 x0 (.int .u8 90)) fun x4=>
   .ite x4 (
   .leaf [bt] []) (
   .bind (.bin .geq 5 x0 (.int .u8 48)) fun x5=>
   .ite x5 (
    .bind (.bin .leq 5 x0 (.int .u8 57)) fun x6=>
    .ite x6 (
    .leaf [bt] []) (
    .bind (.bin .eql 5 x0 (.int .u8 46)) fun x7=>
    .ite x7 (
     .leaf [bt] []) (
     .bind (.bin .eql 5 x0 (.int .u8 95)) fun x8=>
     .ite x8 (
     .leaf [bt] []) (
     .bind (.bin .eql 5 x0 (.int .u8 45)) fun x9=>
     .leaf [x9] [])))) (
    .bind (.bin .eql 5 x0 (.int .u8 46)) fun x6=>
    .ite x6 (
    .leaf [bt] []) (
    .bind (.bin .eql 5 x0 (.int .u8 95)) fun x7=>
    .ite x7 (
     .leaf [bt] []) (
     .bind (.bin .eql 5 x0 (.int .u8 45)) fun x8=>
     .leaf [x8] []))))) (
   .bind (.bin .geq 5 x0 (.int .u8 48)) fun x4=>
   .ite x4 (
   .bind (.bin .leq 5 x0 (.int .u8 57)) fun x5=>
   .ite x5 (
    .leaf [bt] []) (
    .bind (.bin .eql 5 x0 (.int .u8 46)) fun x6=>
    .ite x6 (
    .leaf [bt] []) (
    .bind (.bin .eql 5 x0 (.int .u8 95)) fun x7=>
    .ite x7 (
     .leaf [bt] []) (
     .bind (.bin .eql 5 x0 (.int .u8 45)) fun x8=>
     .leaf [x8] [])))) (
   .bind (.bin .eql 5 x0 (.int .u8 46)) fun x5=>
   .ite x5 (
    .leaf [bt] []) (
    .bind (.bin .eql 5 x0 (.int .u8 95)) fun x6=>
    .ite x6 (
    .leaf [bt] []) (
    .bind (.bin .eql 5 x0 (.int .u8 45)) fun x7=>
    .leaf [x7] [])))))) (
  .bind (.bin .geq 5 x0 (.int .u8 65)) fun x2=>
  .ite x2 (
  .bind (.bin .leq 5 x0 (.int .u8 90)) fun x3=>
  .ite x3 (
   .leaf [bt] []) (
   .bind (.bin .geq 5 x0 (.int .u8 48)) fun x4=>
   .ite x4 (
   .bind (.bin .leq 5 x0 (.int .u8 57)) fun x5=>
   .ite x5 (
    .leaf [bt] []) (
    .bind (.bin .eql 5 x0 (.int .u8 46)) fun x6=>
    .ite x6 (
    .leaf [bt] []) (
    .bind (.bin .eql 5 x0 (.int .u8 95)) fun x7=>
    .ite x7 (
     .leaf [bt] []) (
     .bind (.bin .eql 5 x0 (.int .u8 45)) fun x8=>
     .leaf [x8] [])))) (
   .bind (.bin .eql 5 x0 (.int .u8 46)) fun x5=>
   .ite x5 (
    .leaf [bt] []) (
    .bind (.bin .eql 5 x0 (.int .u8 95)) fun x6=>
    .ite x6 (
    .leaf [bt] []) (
    .bind (.bin .eql 5 x0 (.int .u8 45)) fun x7=>
    .leaf [x7] []))))) (
  .bind (.bin .geq 5 x0 (.int .u8 48)) fun x3=>
  .ite x3 (
   .bind (.bin .leq 5 x0 (.int .u8 57)) fun x4=>
   .ite x4 (
   .leaf [bt] []) (
   .bind (.bin .eql 5 x0 (.int .u8 46)) fun x5=>
   .ite x5 (
    .leaf [bt] []) (
    .bind (.bin .eql 5 x0 (.int .u8 95)) fun x6=>
    .ite x6 (
    .leaf [bt] []) (
    .bind (.bin .eql 5 x0 (.int .u8 45)) fun x7=>
    .leaf [x7] [])))) (
   .bind (.bin .eql 5 x0 (.int .u8 46)) fun x4=>
   .ite x4 (
   .leaf [bt] []) (
   .bind (.bin .eql 5 x0 (.int .u8 95)) fun x5=>
   .ite x5 (
    .leaf [bt] []) (
    .bind (.bin .eql 5 x0 (.int .u8 45)) fun x6=>
    .leaf [x6] []))))):=by kernel_rfl
theorem Bdx(x0:D):Hd C1 178 f178 (bd f178) [] [.dyn x0] []=
 .bind (.bin .geq 5 x0 (.int .u8 48)) fun x1=>
 .ite x1 (
  .bind (.bin .leq 5 x0 (.int .u8 57)) fun x2=>
  .ite x2 (
  .bind (.bin .sub 5 x0 (.int .u8 48)) fun x3=>
  .bind (.conv 5 3 x3) fun x4=>
  .leaf [x4] []) (
  .bind (.bin .geq 5 x0 (.int .u8 97)) fun x3=>
  .ite x3 (
   .bind (.bin .leq 5 x0 (.int .u8 102)) fun x4=>
   .ite x4 (
   .bind (.bin .sub 5 x0 (.int .u8 97)) fun x5=>
   .bind (.conv 5 3 x5) fun x6=>
   .bind (.bin .add 3 x6 (.int .i64 10)) fun x7=>
   .leaf [x7] []) (
   .leaf [.int .i64 (-1)] [])) (
   .leaf [.int .i64 (-1)] []))) (
  .bind (.bin .geq 5 x0 (.int .u8 97)) fun x2=>
  .ite x2 (
  .bind (.bin .leq 5 x0 (.int .u8 102)) fun x3=>
  .ite x3 (
   .bind (.bin .sub 5 x0 (.int .u8 97)) fun x4=>
   .bind (.conv 5 3 x4) fun x5=>
   .bind (.bin .add 3 x5 (.int .i64 10)) fun x6=>
   .leaf [x6] []) (
   .leaf [.int .i64 (-1)] [])) (
  .leaf [.int .i64 (-1)] [])):=by kernel_rfl
theorem Bdb(x0 x1:D):Hd C1 116 f116 (bd f116) [{alts:= [[]],objs:= [],joins:= [8]}] [.dyn x0,.dyn x1] []=
 .loop 0 0 [s0,i0,bf,s0,x1] (Ca [fun x2=>
  .bind (.ln 9 x0) fun x3=>
  .bind (.bin .lss 3 (hv x2 4) x3) fun x4=>
  .ite x4 (
  .bind (.idx 9 x0 (hv x2 4)) fun x5=>
  .bind (.bin .eql 5 x5 (.int .u8 34)) fun x6=>
  .ite x6 (
   .bind (.bin .add 3 (hv x2 4) i1) fun x7=>
   .leaf [(hv x2 3),x7,bt] []) (
   .joi (
   .bind (.bin .lss 5 x5 (.int .u8 32)) fun x7=>
   .ite x7 (
    .leaf [bt] []) (
    .bind (.bin .gtr 5 x5 (.int .u8 126)) fun x8=>
    .leaf [x8] [])) fun x7=>
   .ite x7 (
   .leaf [s0,i0,bf] []) (
   .bind (.bin .neq 5 x5 (.int .u8 92)) fun x8=>
   .ite x8 (
    .bind (.bin .add 3 (hv x2 4) i1) fun x9=>
    .bind (.slc 9 x0 (some (hv x2 4)) (some x9) none) fun x10=>
    .bind (.bin .add 9 (hv x2 3) x10) fun x11=>
    .bind (.bin .add 3 (hv x2 4) i1) fun x12=>
    .again 0 0 [(hv x2 0),(hv x2 1),(hv x2 2),x11,x12]) (
    .bind (.bin .add 3 (hv x2 4) i1) fun x9=>
    .bind (.ln 9 x0) fun x10=>
    .bind (.bin .geq 3 x9 x10) fun x11=>
    .ite x11 (
    .leaf [s0,i0,bf] []) (
    .bind (.bin .add 3 (hv x2 4) i1) fun x12=>
    .bind (.idx 9 x0 x12) fun x13=>
    .bind (.bin .eql 5 x13 (.int .u8 110)) fun x14=>
    .ite x14 (
     .bind (.bin .add 9 (hv x2 3) (.str [10])) fun x15=>
     .bind (.bin .add 3 x12 i1) fun x16=>
     .again 0 0 [(hv x2 0),(hv x2 1),(hv x2 2),x15,x16]) (
     .bind (.bin .eql 5 x13 (.int .u8 116)) fun x15=>
     .ite x15 (
     .bind (.bin .add 9 (hv x2 3) (.str [9])) fun x16=>
     .bind (.bin .add 3 x12 i1) fun x17=>
     .again 0 0 [(hv x2 0),(hv x2 1),(hv x2 2),x16,x17]) (
     .bind (.bin .eql 5 x13 (.int .u8 92)) fun x16=>
     .ite x16 (
      .bind (.bin .add 3 x12 i1) fun x17=>
      .bind (.slc 9 x0 (some x12) (some x17) none) fun x18=>
      .bind (.bin .add 9 (hv x2 3) x18) fun x19=>
      .bind (.bin .add 3 x12 i1) fun x20=>
      .again 0 0 [(hv x2 0),(hv x2 1),(hv x2 2),x19,x20]) (
      .bind (.bin .eql 5 x13 (.int .u8 34)) fun x17=>
      .ite x17 (
      .bind (.bin .add 3 x12 i1) fun x18=>
      .bind (.slc 9 x0 (some x12) (some x18) none) fun x19=>
      .bind (.bin .add 9 (hv x2 3) x19) fun x20=>
      .bind (.bin .add 3 x12 i1) fun x21=>
      .again 0 0 [(hv x2 0),(hv x2 1),(hv x2 2),x20,x21]) (
      .bind (.bin .eql 5 x13 (.int .u8 120)) fun x18=>
      .ite x18 (
       .bind (.bin .add 3 x12 (.int .i64 2)) fun x19=>
       .bind (.ln 9 x0) fun x20=>
       .bind (.bin .geq 3 x19 x20) fun x21=>
       .ite x21 (
       .leaf [s0,i0,bf] []) (
       .bind (.bin .add 3 x12 i1) fun x22=>
       .bind (.idx 9 x0 x22) fun x23=>
       .call 178 [] [x23] [] fun x24=>
       .bind (.bin .lss 3 x24 i0) fun x25=>
       .ite x25 (
        .leaf [s0,i0,bf] []) (
        .bind (.bin .add 3 x12 (.int .i64 2)) fun x26=>
        .bind (.idx 9 x0 x26) fun x27=>
        .call 178 [] [x27] [] fun x28=>
        .bind (.bin .lss 3 x28 i0) fun x29=>
        .ite x29 (
        .leaf [s0,i0,bf] []) (
        .bind (.bin .add 3 x12 i1) fun x30=>
        .bind (.idx 9 x0 x30) fun x31=>
        .bind (.bin .add 3 x12 (.int .i64 2)) fun x32=>
        .bind (.idx 9 x0 x32) fun x33=>
        .call 178 [] [x31] [] fun x34=>
        .bind (.bin .mul 3 x34 (.int .i64 16)) fun x35=>
        .call 178 [] [x33] [] fun x36=>
        .bind (.bin .add 3 x35 x36) fun x37=>
        .bind (.conv 3 5 x37) fun x38=>
        .bind (.slim x38) fun x39=>
        .bind (.cell x39) fun x40=>
        .bind (.conv 39 9 (.sl [[x40]] .exact)) fun x41=>
        .bind (.bin .add 9 (hv x2 3) x41) fun x42=>
        .bind (.bin .add 3 x12 (.int .i64 2)) fun x43=>
        .bind (.bin .add 3 x43 i1) fun x44=>
        .again 0 0 [(hv x2 0),(hv x2 1),(hv x2 2),x42,x44])))) (
       .leaf [s0,i0,bf] [])))))))))) (
  .leaf [s0,i0,bf] [])]):=by kernel_rfl
theorem Bhl(x0:D):Hd C1 61 f61 (bd f61) [{alts:= [[],[4]],objs:= [],joins:= [6,9,23]}] [.dyn x0] []=
 .req [(i0,i0),(i0,i0)] (
 .loop 0 0 [.nilsl,i0] (Ca [fun x1=>
  .bind (.ln 9 x0) fun x2=>
  .bind (.bin .lss 3 (hv x1 1) x2) fun x3=>
  .ite x3 (
  .bind (.idx 9 x0 (hv x1 1)) fun x4=>
  .joi (
   .bind (.bin .eql 5 x4 (.int .u8 32)) fun x5=>
   .ite x5 (
   .leaf [bt] []) (
   .bind (.bin .eql 5 x4 (.int .u8 9)) fun x6=>
   .ite x6 (
    .leaf [bt] []) (
    .bind (.bin .eql 5 x4 (.int .u8 10)) fun x7=>
    .ite x7 (
    .leaf [bt] []) (
    .bind (.bin .eql 5 x4 (.int .u8 13)) fun x8=>
    .leaf [x8] [])))) fun x5=>
  .ite x5 (
   .bind (.bin .add 3 (hv x1 1) i1) fun x6=>
   .req [(i0,i0),(i0,i0)] (
   .again 0 0 [(hv x1 0),x6])) (
   .bind (.bin .eql 5 x4 (.int .u8 35)) fun x6=>
   .ite x6 (
   .req [(i0,i0),(i0,i0)] (
   .loop 1 0 [(hv x1 1)] (Ca [fun x7=>
    .joi (
    .bind (.ln 9 x0) fun x8=>
    .bind (.bin .lss 3 (hv x7 0) x8) fun x9=>
    .ite x9 (
     .bind (.idx 9 x0 (hv x7 0)) fun x10=>
     .bind (.bin .neq 5 x10 (.int .u8 10)) fun x11=>
     .leaf [x11] []) (
     .leaf [bf] [])) fun x8=>
    .ite x8 (
    .bind (.bin .add 3 (hv x7 0) i1) fun x9=>
    .req [(i0,i0),(i0,i0)] (
    .again 1 0 [x9])) (
    .req [(i0,i0),(i0,i0)] (
    .again 0 0 [(hv x1 0),(hv x7 0)]))]))) (
   .call 115 [] [x4] [] fun x7=>
   .ite x7 (
    .req [(i0,i0),(i0,i0)] (
    .loop 1 0 [(hv x1 1)] (Ca [fun x8=>
    .bind (.ln 9 x0) fun x9=>
    .bind (.bin .lss 3 (hv x8 0) x9) fun x10=>
    .ite x10 (
     .bind (.idx 9 x0 (hv x8 0)) fun x11=>
     .call 115 [] [x11] [] fun x12=>
     .ite x12 (
     .bind (.bin .add 3 (hv x8 0) i1) fun x13=>
     .req [(i0,i0),(i0,i0)] (
     .again 1 0 [x13])) (
     .bind (.idx 9 x0 (hv x8 0)) fun x13=>
     .bind (.bin .eql 5 x13 (.int .u8 47)) fun x14=>
     .ite x14 (
      .bind (.bin .add 3 (hv x8 0) i1) fun x15=>
      .req [(i0,i0),(i0,i0)] (
      .again 1 0 [x15])) (
      .bind (.slc 9 x0 (some (hv x1 1)) (some (hv x8 0)) none) fun x15=>
      .bind (.cell (hv x1 1)) fun x16=>
      .bind (.cell x15) fun x17=>
      .bind (.slm x16) fun x18=>
      .bind (.slm x17) fun x19=>
      .bind (.app 59 .nilsl (.sl [[i1,x18,x19]] .exact)) fun x20=>
      .req [(i0,i0),(i0,i0),(i0,i0)] (
      .again 0 1 [(hv x1 0),x20,i0,(hv x8 0)])))) (
     .bind (.slc 9 x0 (some (hv x1 1)) (some (hv x8 0)) none) fun x11=>
     .bind (.cell (hv x1 1)) fun x12=>
     .bind (.cell x11) fun x13=>
     .bind (.slm x12) fun x14=>
     .bind (.slm x13) fun x15=>
     .bind (.app 59 .nilsl (.sl [[i1,x14,x15]] .exact)) fun x16=>
     .req [(i0,i0),(i0,i0),(i0,i0)] (
     .again 0 1 [(hv x1 0),x16,i0,(hv x8 0)]))]))) (
    .bind (.bin .eql 5 x4 (.int .u8 47)) fun x8=>
    .ite x8 (
    .req [(i0,i0),(i0,i0)] (
    .loop 1 0 [(hv x1 1)] (Ca [fun x9=>
     .bind (.ln 9 x0) fun x10=>
     .bind (.bin .lss 3 (hv x9 0) x10) fun x11=>
     .ite x11 (
     .bind (.idx 9 x0 (hv x9 0)) fun x12=>
     .call 115 [] [x12] [] fun x13=>
     .ite x13 (
      .bind (.bin .add 3 (hv x9 0) i1) fun x14=>
      .req [(i0,i0),(i0,i0)] (
      .again 1 0 [x14])) (
      .bind (.idx 9 x0 (hv x9 0)) fun x14=>
      .bind (.bin .eql 5 x14 (.int .u8 47)) fun x15=>
      .ite x15 (
      .bind (.bin .add 3 (hv x9 0) i1) fun x16=>
      .req [(i0,i0),(i0,i0)] (
      .again 1 0 [x16])) (
      .bind (.slc 9 x0 (some (hv x1 1)) (some (hv x9 0)) none) fun x16=>
      .bind (.cell (hv x1 1)) fun x17=>
      .bind (.cell x16) fun x18=>
      .bind (.slm x17) fun x19=>
      .bind (.slm x18) fun x20=>
      .bind (.app 59 .nilsl (.sl [[i1,x19,x20]] .exact)) fun x21=>
      .req [(i0,i0),(i0,i0),(i0,i0)] (
      .again 0 1 [(hv x1 0),x21,i0,(hv x9 0)])))) (
     .bind (.slc 9 x0 (some (hv x1 1)) (some (hv x9 0)) none) fun x12=>
     .bind (.cell (hv x1 1)) fun x13=>
     .bind (.cell x12) fun x14=>
     .bind (.slm x13) fun x15=>
     .bind (.slm x14) fun x16=>
     .bind (.app 59 .nilsl (.sl [[i1,x15,x16]] .exact)) fun x17=>
     .req [(i0,i0),(i0,i0),(i0,i0)] (
     .again 0 1 [(hv x1 0),x17,i0,(hv x9 0)]))]))) (
    .bind (.bin .eql 5 x4 (.int .u8 34)) fun x9=>
    .ite x9 (
     .bind (.bin .add 3 (hv x1 1) i1) fun x10=>
     .call 116 [] [x0,x10] [] fun x11=>
     .bind (.ext x11 0) fun x12=>
     .bind (.ext x11 1) fun x13=>
     .bind (.ext x11 2) fun x14=>
     .bind (.un .not x14) fun x15=>
     .ite x15 (
     .bind (.cell (hv x1 1)) fun x16=>
     .chk [x16] (
     .leaf [.nilsl,.agg [i1,x16]] [])) (
     .bind (.cell (hv x1 1)) fun x16=>
     .bind (.cell x12) fun x17=>
     .bind (.slm x16) fun x18=>
     .bind (.slm x17) fun x19=>
     .bind (.app 59 .nilsl (.sl [[.int .i64 2,x18,x19]] .exact)) fun x20=>
     .req [(i0,i0),(i0,i0),(i0,i0)] (
     .again 0 1 [(hv x1 0),x20,i0,x13]))) (
     .joi (
     .bind (.bin .eql 5 x4 (.int .u8 123)) fun x10=>
     .ite x10 (
      .leaf [bt] []) (
      .bind (.bin .eql 5 x4 (.int .u8 125)) fun x11=>
      .ite x11 (
      .leaf [bt] []) (
      .bind (.bin .eql 5 x4 (.int .u8 44)) fun x12=>
      .ite x12 (
       .leaf [bt] []) (
       .bind (.bin .eql 5 x4 (.int .u8 59)) fun x13=>
       .ite x13 (
       .leaf [bt] []) (
       .bind (.bin .eql 5 x4 (.int .u8 61)) fun x14=>
       .ite x14 (
        .leaf [bt] []) (
        .bind (.bin .eql 5 x4 (.int .u8 40)) fun x15=>
        .ite x15 (
        .leaf [bt] []) (
        .bind (.bin .eql 5 x4 (.int .u8 41)) fun x16=>
        .ite x16 (
         .leaf [bt] []) (
         .bind (.bin .eql 5 x4 (.int .u8 43)) fun x17=>
         .ite x17 (
         .leaf [bt] []) (
         .bind (.bin .eql 5 x4 (.int .u8 94)) fun x18=>
         .ite x18 (
          .leaf [bt] []) (
          .bind (.bin .eql 5 x4 (.int .u8 58)) fun x19=>
          .ite x19 (
          .leaf [bt] []) (
          .bind (.bin .eql 5 x4 (.int .u8 36)) fun x20=>
          .leaf [x20] []))))))))))) fun x10=>
     .ite x10 (
     .bind (.bin .add 3 (hv x1 1) i1) fun x11=>
     .bind (.slc 9 x0 (some (hv x1 1)) (some x11) none) fun x12=>
     .bind (.cell (hv x1 1)) fun x13=>
     .bind (.cell x12) fun x14=>
     .bind (.slm x13) fun x15=>
     .bind (.slm x14) fun x16=>
     .bind (.app 59 .nilsl (.sl [[.int .i64 3,x15,x16]] .exact)) fun x17=>
     .bind (.bin .add 3 (hv x1 1) i1) fun x18=>
     .req [(i0,i0),(i0,i0),(i0,i0)] (
     .again 0 1 [(hv x1 0),x17,i0,x18])) (
     .bind (.cell (hv x1 1)) fun x11=>
     .chk [x11] (
     .leaf [.nilsl,.agg [i1,x11]] [])))))))) (
  .bind (.ln 9 x0) fun x4=>
  .bind (.cell x4) fun x5=>
  .bind (.slm x5) fun x6=>
  .bind (.app 59 .nilsl (.sl [[.int .i64 4,x6,s0]] .exact)) fun x7=>
  .leaf [x7,.agg [i0,i0]] []),fun x1=>
  .bind (.ln 9 x0) fun x2=>
  .bind (.bin .lss 3 (hv x1 3) x2) fun x3=>
  .ite x3 (
  .bind (.idx 9 x0 (hv x1 3)) fun x4=>
  .joi (
   .bind (.bin .eql 5 x4 (.int .u8 32)) fun x5=>
   .ite x5 (
   .leaf [bt] []) (
   .bind (.bin .eql 5 x4 (.int .u8 9)) fun x6=>
   .ite x6 (
    .leaf [bt] []) (
    .bind (.bin .eql 5 x4 (.int .u8 10)) fun x7=>
    .ite x7 (
    .leaf [bt] []) (
    .bind (.bin .eql 5 x4 (.int .u8 13)) fun x8=>
    .leaf [x8] [])))) fun x5=>
  .ite x5 (
   .bind (.bin .add 3 (hv x1 3) i1) fun x6=>
   .req [((.int .i64 (((gD (hv x1 2)):Nat):Int)),(.int .i64 (((gD (hv x1 2)):Nat):Int))),(i0,i0),(i0,i0)] (
   .again 0 1 [(hv x1 0),(hv x1 1),(.int .i64 (((gD (hv x1 2)):Nat):Int)),x6])) (
   .bind (.bin .eql 5 x4 (.int .u8 35)) fun x6=>
   .ite x6 (
   .req [(i0,i0),(i0,i0),((.int .i64 (((gD (hv x1 2)):Nat):Int)),(.int .i64 (((gD (hv x1 2)):Nat):Int)))] (
   .loop 1 0 [(hv x1 3)] (Ca [fun x7=>
    .joi (
    .bind (.ln 9 x0) fun x8=>
    .bind (.bin .lss 3 (hv x7 0) x8) fun x9=>
    .ite x9 (
     .bind (.idx 9 x0 (hv x7 0)) fun x10=>
     .bind (.bin .neq 5 x10 (.int .u8 10)) fun x11=>
     .leaf [x11] []) (
     .leaf [bf] [])) fun x8=>
    .ite x8 (
    .bind (.bin .add 3 (hv x7 0) i1) fun x9=>
    .req [(i0,i0),(i0,i0),((.int .i64 (((gD (hv x1 2)):Nat):Int)),(.int .i64 (((gD (hv x1 2)):Nat):Int)))] (
    .again 1 0 [x9])) (
    .req [((.int .i64 (((gD (hv x1 2)):Nat):Int)),(.int .i64 (((gD (hv x1 2)):Nat):Int))),(i0,i0),(i0,i0)] (
    .again 0 1 [(hv x1 0),(hv x1 1),(.int .i64 (((gD (hv x1 2)):Nat):Int)),(hv x7 0)]))]))) (
   .call 115 [] [x4] [] fun x7=>
   .ite x7 (
    .req [(i0,i0),(i0,i0),((.int .i64 (((gD (hv x1 2)):Nat):Int)),(.int .i64 (((gD (hv x1 2)):Nat):Int)))] (
    .loop 1 0 [(hv x1 3)] (Ca [fun x8=>
    .bind (.ln 9 x0) fun x9=>
    .bind (.bin .lss 3 (hv x8 0) x9) fun x10=>
    .ite x10 (
     .bind (.idx 9 x0 (hv x8 0)) fun x11=>
     .call 115 [] [x11] [] fun x12=>
     .ite x12 (
     .bind (.bin .add 3 (hv x8 0) i1) fun x13=>
     .req [(i0,i0),(i0,i0),((.int .i64 (((gD (hv x1 2)):Nat):Int)),(.int .i64 (((gD (hv x1 2)):Nat):Int)))] (
     .again 1 0 [x13])) (
     .bind (.idx 9 x0 (hv x8 0)) fun x13=>
     .bind (.bin .eql 5 x13 (.int .u8 47)) fun x14=>
     .ite x14 (
      .bind (.bin .add 3 (hv x8 0) i1) fun x15=>
      .req [(i0,i0),(i0,i0),((.int .i64 (((gD (hv x1 2)):Nat):Int)),(.int .i64 (((gD (hv x1 2)):Nat):Int)))] (
      .again 1 0 [x15])) (
      .bind (.slc 9 x0 (some (hv x1 3)) (some (hv x8 0)) none) fun x15=>
      .bind (.cell (hv x1 3)) fun x16=>
      .bind (.cell x15) fun x17=>
      .bind (.slm x16) fun x18=>
      .bind (.slm x17) fun x19=>
      .req [((.int .i64 (((gD (hv x1 2)):Nat):Int)),(.int .i64 (((gD (hv x1 2)):Nat):Int)))] (
      .bind (.app1 59 (hv x1 1) (.sl [[i1,x18,x19]] .exact)) fun x20=>
      .req [((.int .i64 (((gD (hv x1 2)+1):Nat):Int)),(.int .i64 (((gD (hv x1 2)+1):Nat):Int))),(i0,i0),(i0,i0)] (
      .again 0 1 [(hv x1 0),x20,(.int .i64 (((gD (hv x1 2)+1):Nat):Int)),(hv x8 0)]))))) (
     .bind (.slc 9 x0 (some (hv x1 3)) (some (hv x8 0)) none) fun x11=>
     .bind (.cell (hv x1 3)) fun x12=>
     .bind (.cell x11) fun x13=>
     .bind (.slm x12) fun x14=>
     .bind (.slm x13) fun x15=>
     .req [((.int .i64 (((gD (hv x1 2)):Nat):Int)),(.int .i64 (((gD (hv x1 2)):Nat):Int)))] (
     .bind (.app1 59 (hv x1 1) (.sl [[i1,x14,x15]] .exact)) fun x16=>
     .req [((.int .i64 (((gD (hv x1 2)+1):Nat):Int)),(.int .i64 (((gD (hv x1 2)+1):Nat):Int))),(i0,i0),(i0,i0)] (
     .again 0 1 [(hv x1 0),x16,(.int .i64 (((gD (hv x1 2)+1):Nat):Int)),(hv x8 0)])))]))) (
    .bind (.bin .eql 5 x4 (.int .u8 47)) fun x8=>
    .ite x8 (
    .req [(i0,i0),(i0,i0),((.int .i64 (((gD (hv x1 2)):Nat):Int)),(.int .i64 (((gD (hv x1 2)):Nat):Int)))] (
    .loop 1 0 [(hv x1 3)] (Ca [fun x9=>
     .bind (.ln 9 x0) fun x10=>
     .bind (.bin .lss 3 (hv x9 0) x10) fun x11=>
     .ite x11 (
     .bind (.idx 9 x0 (hv x9 0)) fun x12=>
     .call 115 [] [x12] [] fun x13=>
     .ite x13 (
      .bind (.bin .add 3 (hv x9 0) i1) fun x14=>
      .req [(i0,i0),(i0,i0),((.int .i64 (((gD (hv x1 2)):Nat):Int)),(.int .i64 (((gD (hv x1 2)):Nat):Int)))] (
      .again 1 0 [x14])) (
      .bind (.idx 9 x0 (hv x9 0)) fun x14=>
      .bind (.bin .eql 5 x14 (.int .u8 47)) fun x15=>
      .ite x15 (
      .bind (.bin .add 3 (hv x9 0) i1) fun x16=>
      .req [(i0,i0),(i0,i0),((.int .i64 (((gD (hv x1 2)):Nat):Int)),(.int .i64 (((gD (hv x1 2)):Nat):Int)))] (
      .again 1 0 [x16])) (
      .bind (.slc 9 x0 (some (hv x1 3)) (some (hv x9 0)) none) fun x16=>
      .bind (.cell (hv x1 3)) fun x17=>
      .bind (.cell x16) fun x18=>
      .bind (.slm x17) fun x19=>
      .bind (.slm x18) fun x20=>
      .req [((.int .i64 (((gD (hv x1 2)):Nat):Int)),(.int .i64 (((gD (hv x1 2)):Nat):Int)))] (
      .bind (.app1 59 (hv x1 1) (.sl [[i1,x19,x20]] .exact)) fun x21=>
      .req [((.int .i64 (((gD (hv x1 2)+1):Nat):Int)),(.int .i64 (((gD (hv x1 2)+1):Nat):Int))),(i0,i0),(i0,i0)] (
      .again 0 1 [(hv x1 0),x21,(.int .i64 (((gD (hv x1 2)+1):Nat):Int)),(hv x9 0)]))))) (
     .bind (.slc 9 x0 (some (hv x1 3)) (some (hv x9 0)) none) fun x12=>
     .bind (.cell (hv x1 3)) fun x13=>
     .bind (.cell x12) fun x14=>
     .bind (.slm x13) fun x15=>
     .bind (.slm x14) fun x16=>
     .req [((.int .i64 (((gD (hv x1 2)):Nat):Int)),(.int .i64 (((gD (hv x1 2)):Nat):Int)))] (
     .bind (.app1 59 (hv x1 1) (.sl [[i1,x15,x16]] .exact)) fun x17=>
     .req [((.int .i64 (((gD (hv x1 2)+1):Nat):Int)),(.int .i64 (((gD (hv x1 2)+1):Nat):Int))),(i0,i0),(i0,i0)] (
     .again 0 1 [(hv x1 0),x17,(.int .i64 (((gD (hv x1 2)+1):Nat):Int)),(hv x9 0)])))]))) (
    .bind (.bin .eql 5 x4 (.int .u8 34)) fun x9=>
    .ite x9 (
     .bind (.bin .add 3 (hv x1 3) i1) fun x10=>
     .call 116 [] [x0,x10] [] fun x11=>
     .bind (.ext x11 0) fun x12=>
     .bind (.ext x11 1) fun x13=>
     .bind (.ext x11 2) fun x14=>
     .bind (.un .not x14) fun x15=>
     .ite x15 (
     .bind (.cell (hv x1 3)) fun x16=>
     .chk [x16] (
     .leaf [.nilsl,.agg [i1,x16]] [])) (
     .bind (.cell (hv x1 3)) fun x16=>
     .bind (.cell x12) fun x17=>
     .bind (.slm x16) fun x18=>
     .bind (.slm x17) fun x19=>
     .req [((.int .i64 (((gD (hv x1 2)):Nat):Int)),(.int .i64 (((gD (hv x1 2)):Nat):Int)))] (
     .bind (.app1 59 (hv x1 1) (.sl [[.int .i64 2,x18,x19]] .exact)) fun x20=>
     .req [((.int .i64 (((gD (hv x1 2)+1):Nat):Int)),(.int .i64 (((gD (hv x1 2)+1):Nat):Int))),(i0,i0),(i0,i0)] (
     .again 0 1 [(hv x1 0),x20,(.int .i64 (((gD (hv x1 2)+1):Nat):Int)),x13])))) (
     .joi (
     .bind (.bin .eql 5 x4 (.int .u8 123)) fun x10=>
     .ite x10 (
      .leaf [bt] []) (
      .bind (.bin .eql 5 x4 (.int .u8 125)) fun x11=>
      .ite x11 (
      .leaf [bt] []) (
      .bind (.bin .eql 5 x4 (.int .u8 44)) fun x12=>
      .ite x12 (
       .leaf [bt] []) (
       .bind (.bin .eql 5 x4 (.int .u8 59)) fun x13=>
       .ite x13 (
       .leaf [bt] []) (
       .bind (.bin .eql 5 x4 (.int .u8 61)) fun x14=>
       .ite x14 (
        .leaf [bt] []) (
        .bind (.bin .eql 5 x4 (.int .u8 40)) fun x15=>
        .ite x15 (
        .leaf [bt] []) (
        .bind (.bin .eql 5 x4 (.int .u8 41)) fun x16=>
        .ite x16 (
         .leaf [bt] []) (
         .bind (.bin .eql 5 x4 (.int .u8 43)) fun x17=>
         .ite x17 (
         .leaf [bt] []) (
         .bind (.bin .eql 5 x4 (.int .u8 94)) fun x18=>
         .ite x18 (
          .leaf [bt] []) (
          .bind (.bin .eql 5 x4 (.int .u8 58)) fun x19=>
          .ite x19 (
          .leaf [bt] []) (
          .bind (.bin .eql 5 x4 (.int .u8 36)) fun x20=>
          .leaf [x20] []))))))))))) fun x10=>
     .ite x10 (
     .bind (.bin .add 3 (hv x1 3) i1) fun x11=>
     .bind (.slc 9 x0 (some (hv x1 3)) (some x11) none) fun x12=>
     .bind (.cell (hv x1 3)) fun x13=>
     .bind (.cell x12) fun x14=>
     .bind (.slm x13) fun x15=>
     .bind (.slm x14) fun x16=>
     .req [((.int .i64 (((gD (hv x1 2)):Nat):Int)),(.int .i64 (((gD (hv x1 2)):Nat):Int)))] (
     .bind (.app1 59 (hv x1 1) (.sl [[.int .i64 3,x15,x16]] .exact)) fun x17=>
     .bind (.bin .add 3 (hv x1 3) i1) fun x18=>
     .req [((.int .i64 (((gD (hv x1 2)+1):Nat):Int)),(.int .i64 (((gD (hv x1 2)+1):Nat):Int))),(i0,i0),(i0,i0)] (
     .again 0 1 [(hv x1 0),x17,(.int .i64 (((gD (hv x1 2)+1):Nat):Int)),x18]))) (
     .bind (.cell (hv x1 3)) fun x11=>
     .chk [x11] (
     .leaf [.nilsl,.agg [i1,x11]] [])))))))) (
  .bind (.ln 9 x0) fun x4=>
  .bind (.cell x4) fun x5=>
  .bind (.slm x5) fun x6=>
  .req [((.int .i64 (((gD (hv x1 2)):Nat):Int)),(.int .i64 (((gD (hv x1 2)):Nat):Int)))] (
  .bind (.app1 59 (hv x1 1) (.sl [[.int .i64 4,x6,s0]] .exact)) fun x7=>
  .leaf [x7,.agg [i0,i0]] []))])):=by kernel_rfl
theorem Bif(x0 x1:D):Hd C1 28 Tryz.f28 (bd Tryz.f28) [{alts:= [[]],objs:= [],joins:= [1]}] [.dyn x0,.dyn x1] []=
 .bind (.agg 7 x0) fun x2=>
 .bind (.agg 7 x1) fun x3=>
 .joi (
  .bind (.bin .neq 3 (gc x2 0) (gc x3 0)) fun x4=>
  .ite x4 (
  .leaf [bt] []) (
  .bind (.bin .neq 3 (gc x2 1) (gc x3 1)) fun x5=>
  .ite x5 (
   .leaf [bt] []) (
   .bind (.bin .neq 26 (.agg [(gc x2 2),(gc x2 3)]) (.agg [(gc x3 2),(gc x3 3)])) fun x6=>
   .ite x6 (
   .leaf [bt] []) (
   .bind (.bin .neq 9 (gc x2 4) (gc x3 4)) fun x7=>
   .ite x7 (
    .leaf [bt] []) (
    .bind (.bin .neq 3 (gc x2 5) (gc x3 5)) fun x8=>
    .ite x8 (
    .leaf [bt] []) (
    .bind (.ln 27 (gc x2 6)) fun x9=>
    .bind (.ln 27 (gc x3 6)) fun x10=>
    .bind (.bin .neq 3 x9 x10) fun x11=>
    .leaf [x11] [])))))) fun x4=>
 .ite x4 (
  .leaf [bf] []) (
  .bind (.ln 27 (gc x2 6)) fun x5=>
  .req [((gc x2 0),(gc x2 0)),((gc x2 1),(gc x2 1)),((gc x2 2),(gc x2 2)),((gc x2 3),(gc x2 3)),((gc x2 4),(gc x2 4)),((gc x2 5),(gc x2 5)),((gc x2 6),(gc x2 6)),((gc x3 0),(gc x3 0)),((gc x3 1),(gc x3 1)),((gc x3 2),(gc x3 2)),((gc x3 3),(gc x3 3)),((gc x3 4),(gc x3 4)),((gc x3 5),(gc x3 5)),((gc x3 6),(gc x3 6))] (
  .loop 0 0 [bf,i0] (Ca [fun x6=>
  .bind (.bin .lss 3 (hv x6 1) x5) fun x7=>
  .ite x7 (
   .bind (.ia 27 (gc x2 6) (hv x6 1)) fun x8=>
   .bind (.ld 29 x8) fun x9=>
   .bind (.ia 27 (gc x3 6) (hv x6 1)) fun x10=>
   .bind (.ld 29 x10) fun x11=>
   .call 28 [] [x9,x11] [] fun x12=>
   .bind (.un .not x12) fun x13=>
   .ite x13 (
   .leaf [bf] []) (
   .bind (.bin .add 3 (hv x6 1) i1) fun x14=>
   .req [((gc x2 0),(gc x2 0)),((gc x2 1),(gc x2 1)),((gc x2 2),(gc x2 2)),((gc x2 3),(gc x2 3)),((gc x2 4),(gc x2 4)),((gc x2 5),(gc x2 5)),((gc x2 6),(gc x2 6)),((gc x3 0),(gc x3 0)),((gc x3 1),(gc x3 1)),((gc x3 2),(gc x3 2)),((gc x3 3),(gc x3 3)),((gc x3 4),(gc x3 4)),((gc x3 5),(gc x3 5)),((gc x3 6),(gc x3 6))] (
   .again 0 0 [(hv x6 0),x14]))) (
   .leaf [bt] [])]))):=by kernel_rfl
theorem Bg3(x0:D):Hd C1 10 f10 (bd f10) [] [.dyn x0] []=
 .call 12 [] [x0] [] fun x1=>
 .bind (.ext x1 0) fun x2=>
 .bind (.ext x1 1) fun x3=>
 .bind (.agg 7 x2) fun x4=>
 .chk (cl x4 7) (
 .bind (.agg 2 x3) fun x5=>
 .chk (cl x5 2) (
 .call 27 [] [x0] [] fun x6=>
 .bind (.ext x6 0) fun x7=>
 .bind (.ext x6 1) fun x8=>
 .bind (.agg 7 x7) fun x9=>
 .chk (cl x9 7) (
 .bind (.agg 2 x8) fun x10=>
 .chk (cl x10 2) (
 .bind (.bin .eql 32 (.agg (cl x5 2)) (.agg (cl x10 2))) fun x11=>
 .ite x11 (
  .call 28 [] [.agg (cl x4 7),.agg (cl x9 7)] [] fun x12=>
  .leaf [x12] []) (
  .leaf [bf] []))))):=by kernel_rfl
structure RS where
 k:Nat
 bad:Option Nat
def Nu(L:Nat)(W:List Wd)(s:RS):List D:= [.sl (Dt L W) .none,.int .i64 (s.k:Int),Nv s.bad]
def Km(cf:Ah)(f:Nat)(xs:List D)(L:Nat)(W:List Wd)(s:RS)(v:D)(s':RS):Prop:=Acn cf f (none::xs.map some) (Nu L W s) v (Nu L W s')
def Gw(W:List Wd)(s:RS):PS:=⟨W.drop s.k,s.bad⟩
def Gg(L:Nat)(W:List Wd)(s:RS):RS:=⟨s.k,match s.bad with
 |none=>some (Cn L (W.drop s.k)).at_
 |some b=>some b⟩
theorem Avl(L:Nat)(W:List Wd)(s:RS):Gw W (Gg L W s)=Hf L (Gw W s):=rfl
theorem Az7(L:Nat)(W:List Wd)(s:RS):F6 0 (Nu L W s)=false:=by
 unfold Nu;have:D8 0 (Nv s.bad)=false:=by cases s.bad<;>rfl
 simp[F6,D8,Yu,this]
theorem Av8{L:Nat}{W:List Wd}{k:Nat}(h:k≤W.length):(Dt L W)[k]?=some (Ci (Cn L (W.drop k))):=by
 unfold Dt;rcases Nat.lt_or_ge k W.length with hk|hk
 ·rw[List.getElem?_append_left (by simpa using hk),List.getElem?_map,List.getElem?_eq_getElem hk,List.drop_eq_getElem_cons hk]
  rfl
 ·have:k=W.length:=by omega
  subst this;rw[List.getElem?_append_right (by simp)]
  simp[Cn]
theorem A56{L:Nat}{W:List Wd}{k:Nat}(gr:Gr)(h:k≤W.length):(Av.ia 59 (.sl (Dt L W) gr) (.int .i64 (k:Int))).sem prog=some (.eptr [.int .i64 ((Cn L (W.drop k)).k:Int),.int .i64 ((Cn L (W.drop k)).at_:Int),.str (Cn L (W.drop k)).tx]):=by
 have hn:E5 (.int .i64 (k:Int))=some k:=by simp[E5]
 simp only[Av.sem,Cf,hn,Amg,Av8 h,Tz,Et];rfl
theorem Q8(a b c:D):(Av.fld 67 (.agg [a,b,c]) 0).sem prog=some a:=by
 have h:M8 prog 67 (.agg [a,b,c]) 0=(Dk prog 3 [a,b,c] 0).map fun v=>(v,.pure):=by kernel_rfl
 simp only[Av.sem,h,take3,Option.map_some,Et]
theorem Wt(a b c:D):(Av.fld 67 (.agg [a,b,c]) 1).sem prog=some b:=by
 have h:M8 prog 67 (.agg [a,b,c]) 1=(Dk prog 3 [a,b,c] 1).map fun v=>(v,.pure):=by kernel_rfl
 have h2:Dk prog 3 [a,b,c] 1=some b:=by unfold Dk;simp[Auu,A59]
 simp only[Av.sem,h,h2,Option.map_some,Et]
theorem X3(a b c:D):(Av.fld 67 (.agg [a,b,c]) 2).sem prog=some c:=by
 have h:M8 prog 67 (.agg [a,b,c]) 2=(Dk prog 9 [a,b,c] 2).map fun v=>(v,.pure):=by kernel_rfl
 have h2:Dk prog 9 [a,b,c] 2=some c:=by unfold Dk;simp[Ami,A6c]
 simp only[Av.sem,h,h2,Option.map_some,Et]
def A3f(w:Wd):Prop:=(w.k=1→Lt w.tx)∧(w.k=3→∃c,c∈O5∧w.tx= [c])
def Ng(W:List Wd):Prop:=W.length<1000∧∀w∈W,A3f w
theorem Ng.hd{L:Nat}{W:List Wd}(h:Ng W)(k:Nat):A3f (Cn L (W.drop k)):=by
 cases hs:W.drop k with
 |nil=>exact⟨(fun h=>by cases h),(fun h=>by cases h)⟩
 |cons w ws=>exact h.2 w (List.mem_of_mem_drop (i:=k) (by rw[hs];simp))
def Pg(L:Nat)(W:List Wd)(s:RS)(t:List UInt8):Bool:=(((Cn L (W.drop s.k)).k:Int) == 3 && (Cn L (W.drop s.k)).tx == t) || ((((Cn L (W.drop s.k)).k:Int) == 1 && (Cn L (W.drop s.k)).tx == t) && (t == [45] || (t == Vx || t == Ib)))
section
variable{cf:Ah}{N:Nat}{L:Nat}{W:List Wd}
theorem Rl(hK:∀f,Ba (cf f)){f:FuncId}{fn:Func}{c:Code}{hs:List Hint}{args:List S}{xs:List D}{s s':RS}{v:D}{T:Tree}(hfn:prog.funcs[f]?=some fn)(hb:fn.body=some c)(hh:C1.hnd.contains f=false)(hk:C1.keepArr.contains f=false)(hk2:C1.keepNil.contains f=false)
  (ha:Ux 0 Ef args=some (none::xs.map some))(hpe:Hd C1 f fn c hs args [.cells [.dyn (.sl (Dt L W) .none),.dyn (.int .i64 (s.k:Int)),.dyn (Nv s.bad)]]=T)
  (hw:wp prog cf N (fun rs os=>Ck v rs∧os= [Nu L W s']) T []):Km (run C1 cf N) f xs L W s v s':=by
 refine Alw hK hfn hb hh hk hk2 (hs:=hs) ha (l:= [.dyn (.sl (Dt L W) .none),.dyn (.int .i64 (s.k:Int)),.dyn (Nv s.bad)]) rfl ?_;rw[hpe];have:(fun rs os=>Ck v rs∧os= [Nu L W s']∧F6 0 (Nu L W s')=false)=(fun rs os=>Ck v rs∧os= [Nu L W s']):=by funext rs os;simp[Az7]
 rw[this];exact hw
theorem A6w(hK:∀f,Ba (cf f))(s:RS):Km (run C1 cf N) 63 [] L W s (.bool s.bad.isNone) s:=by refine Rl hK func63 bdy rfl rfl rfl rfl (Bil _ _ _) ?_;simp only[Aa,Xk,Ab];exact⟨Bf rfl,rfl⟩
theorem Bcm(hK:∀f,Ba (cf f))(s:RS)(hs:s.k≤W.length):Km (run C1 cf N) 64 [] L W s (.agg (Ci (Cn L (W.drop s.k)))) s:=by refine Rl hK func64 bdy rfl rfl rfl rfl (Bhv _ _ _) ?_;simp only[Aa,A56 _ hs,At6,M5,List.length_cons,List.length_nil,if_true,Ae,Ab];exact⟨rfl,⟨rfl,_,rfl,rfl⟩,rfl⟩
variable(hK:∀f,Ba (cf f))(h63:∀s:RS,Km cf 63 [] L W s (.bool s.bad.isNone) s)(h64:∀s:RS,s.k≤W.length→Km cf 64 [] L W s (.agg (Ci (Cn L (W.drop s.k)))) s)
 (h65:∀s:RS,s.k≤W.length→Km cf 65 [] L W s (.tup []) (Gg L W s))(h117:∀(s:RS) (t:List UInt8),s.k≤W.length→Km cf 117 [.str t] L W s (.bool (Pg L W s t)) s)
include hK h64 in
theorem Baw(s:RS)(hs:s.k≤W.length):Km (run C1 cf N) 65 [] L W s (.tup []) (Gg L W s):=by
 refine Rl hK func65 bdy rfl rfl rfl rfl (Bhd _ _ _) ?_;simp only[Aa,Xk,Ac];obtain⟨k,bad⟩:=s;cases bad with
 |some b=>simp only[Option.isNone_some,BF,Ab];exact⟨Oz,rfl⟩
 |none=>simp only[Option.isNone_none,if_true];refine Ad rfl (h64 ⟨k,none⟩ hs) rfl ?_;simp only[Ci,Aa,Wt,A9,Al,if_true,Ae,Ab];exact⟨rfl,Oz,rfl⟩
include hK h64 in
theorem Ayb(s:RS)(t:List UInt8)(hs:s.k≤W.length):Km (run C1 cf N) 117 [.str t] L W s (.bool (Pg L W s t)) s:=by
 refine Rl hK func117 bdy rfl rfl rfl rfl (Bdh _ _ _ _) ?_;have hm:=h64 s hs;refine Ad rfl hm rfl ?_;simp only[Ci,Aa,Q8,En,Ac];unfold Pg at*;cases h3:((Cn L (W.drop s.k)).k:Int) == 3 with
 |true=>
  simp only[if_true];refine Ad rfl hm rfl ?_;simp only[Ci,Aa,X3,Di,Ac];cases ht:(Cn L (W.drop s.k)).tx == t with
  |true=>simp only[if_true,Ab];exact⟨Qk (by simp),rfl⟩
  |false=>
   simp only[BF];refine Ad rfl hm rfl ?_;have h1:(((Cn L (W.drop s.k)).k:Int) == 1)=false:=by rw[beq_iff_eq]at h3;rw[h3];rfl
   simp only[Ci,Aa,Q8,En,Ac,h1,BF,Ab];exact⟨Qk (by simp),rfl⟩
 |false=>
  simp only[BF];refine Ad rfl hm rfl ?_;simp only[Ci,Aa,Q8,En,Ac];cases h1:((Cn L (W.drop s.k)).k:Int) == 1 with
  |false=>simp only[BF,Ab];exact⟨Qk (by simp),rfl⟩
  |true=>
   simp only[if_true];refine Ad rfl hm rfl ?_;simp only[Ci,Aa,X3,Di,Ac];cases ht:(Cn L (W.drop s.k)).tx == t with
   |false=>simp only[BF,Ab];exact⟨Qk (by simp),rfl⟩
   |true=>
    simp only[if_true];cases ha:t == [45]with
    |true=>simp only[if_true,Ab];exact⟨Qk (by simp),rfl⟩
    |false=>
     simp only[BF];cases hb:t == [105,110]with
     |true=>simp only[if_true,Ab];exact⟨Qk (by simp[show(t == Vx)=true from hb]),rfl⟩
     |false=>simp only[BF,Ab];exact⟨Qk (by simp[show(t == Vx)=false from hb,show(t == [108,101,116])=(t == Ib)from rfl]),rfl⟩
def Dw(L:Nat)(may:List UInt8→Bool)(W:List Wd)(s:RS):List UInt8 × RS:=if s.bad.isNone && (((Cn L (W.drop s.k)).k:Int) == 1 && may (Cn L (W.drop s.k)).tx)then((Cn L (W.drop s.k)).tx,⟨s.k+1,s.bad⟩)else([],Gg L W s)
def Bg(L:Nat)(W:List Wd)(s:RS)(t:List UInt8):RS:=if s.bad.isNone && Pg L W s t then⟨s.k+1,s.bad⟩else Gg L W s
theorem Er{s:RS}(hs:s.k≤W.length)(h:(Cn L (W.drop s.k)).k≠4):s.k<W.length:=by
 rcases Nat.lt_or_ge s.k W.length with h1|h1
 ·exact h1
 ·rw[List.drop_eq_nil_of_le h1]at h;exact absurd rfl h
theorem Em{s:RS}{t:List UInt8}(hs:s.k≤W.length)(h:Pg L W s t=true):s.k<W.length:=by refine Er (L:=L) hs fun h4=>?_;unfold Pg at h;rw[h4]at h;simp at h
include hK h63 h65 h117 in
theorem A2l(hW:Ng W)(s:RS)(t:List UInt8)(hs:s.k≤W.length):Km (run C1 cf N) 119 [.str t] L W s (.tup []) (Bg L W s t):=by
 refine Rl hK func119 bdy rfl rfl rfl rfl (Bd3 _ _ _ _) ?_;refine Ad rfl (h63 s) rfl ?_;simp only[Ac];unfold Bg;cases hb:s.bad.isNone with
 |false=>simp only[BF,Bool.false_and];refine Ad rfl (h65 s hs) rfl ?_;rw[Ab];exact⟨Oz,rfl⟩
 |true=>
  simp only[if_true,Bool.true_and];refine Ad rfl (h117 s t hs) rfl ?_;simp only[Ac];cases hi:Pg L W s t with
  |false=>simp only[BF];refine Ad rfl (h65 s hs) rfl ?_;rw[Ab];exact⟨Oz,rfl⟩
  |true=>
   have:=Em hs hi;have:=hW.1;simp only[if_true,Nu,gd,List.getD_cons_zero,List.getD_cons_succ,Aa,Bt,wrapN (show s.k<1000000 by omega),A9,Al,Ae,Ab]
   refine⟨?_,?_,?_⟩<;>first|exact Oz|rfl|trivial
include hK h63 h64 h65 in
theorem Ayn(hW:Ng W)(may:List UInt8→Bool)(h179:∀t,Lt t→Ao cf 179 [.str t] (.bool (may t)))(s:RS)(hs:s.k≤W.length):Km (run C1 cf N) 118 [] L W s (.str (Dw L may W s).1) (Dw L may W s).2:=by
 refine Rl hK func118 bdy rfl rfl rfl rfl (Be8 _ _ _) ?_;have hm:=h64 s hs;refine Ad rfl (h63 s) rfl ?_;simp only[Aa,K5,Ac];have hfail:(s.bad.isNone && (((Cn L (W.drop s.k)).k:Int) == 1 && may (Cn L (W.drop s.k)).tx))=false→∀T:D→List D→Tree,(∀x y,T x y= .leaf [.str []] [gl y 3])→wp prog cf N (fun rs os=>Ck (.str (Dw L may W s).1) rs∧os= [Nu L W (Dw L may W s).2]) (.meth 65 [] [none] [] (gl (Nu L W s) 3) T) []:=fun h T hT=>by refine Ad rfl (h65 s hs) rfl ?_;rw[hT,Ab];unfold Dw;rw[h];exact⟨Bf rfl,rfl⟩
 cases hb:s.bad.isNone with
 |false=>simp only[Bool.not_false,if_true];exact hfail (by rw[hb];rfl) _ fun _ _=>rfl
 |true=>
  simp only[Bool.not_true,BF];refine Ad rfl hm rfl ?_;simp only[Ci,Aa,Q8,Nn,Ac];cases hk:((Cn L (W.drop s.k)).k:Int) == 1 with
  |false=>
   rw[show(((Cn L (W.drop s.k)).k:Int) !=1)=true from by rw[bne,hk];rfl]
   simp only[if_true];exact hfail (by rw[hk];simp) _ fun _ _=>rfl
  |true=>
   rw[show(((Cn L (W.drop s.k)).k:Int) !=1)=false from by rw[bne,hk];rfl]
   simp only[BF];refine Ad rfl hm rfl ?_;have hk1:(Cn L (W.drop s.k)).k=1:=by rw[beq_iff_eq]at hk;omega
   have hlt:=Er (L:=L) hs (by rw[hk1];decide)
   simp only[Ci,Aa,X3];refine Aw rfl (h179 _ ((hW.hd s.k).1 hk1)) ?_;simp only[Aa,K5,Ac];cases hmy:may (Cn L (W.drop s.k)).tx with
   |false=>simp only[Bool.not_false,if_true];exact hfail (by rw[hmy];simp) _ fun _ _=>rfl
   |true=>
    have:=hW.1;simp only[Bool.not_true,BF,Nu,gd,List.getD_cons_zero,List.getD_cons_succ,Aa,Bt,wrapN (show s.k<1000000 by omega),A9,Al,if_true,Ae,Ack]
    rw[Go.IntWalk.i64_in _ (by omega),show(((s.k+1:Nat):Int) - 1)=(s.k:Int)from by omega]
    simp only[A56 _ hs,Akx,Tc,Ab];unfold Dw;rw[hb,hk,hmy];exact⟨rfl,Bf rfl,rfl⟩
end
def QJ(cs:List D):Prop:=∃k a r ln nm n rows,cs= [.int .i64 k,.int .i64 a,.bool r,.str ln,.str nm,.int .i64 n,.sl rows .none]∧Gt 0 rows=false
theorem QJ.enc(x:Qy):QJ (Br x):=by have hr:=K3 x;obtain⟨k,a,r,ln,nm,n,rows,h⟩:=J9 x;rw[h]at hr;refine⟨k,a,r,ln,nm,n,rows,h,?_⟩;simpa[F6,D8]using hr
theorem QJ.len{cs:List D}(h:QJ cs):cs.length=7:=by obtain⟨k,a,r,ln,nm,n,rows,rfl,_⟩:=h;rfl
theorem QJ.ok{cs:List D}(h:QJ cs):cs.all Al=true:=by obtain⟨k,a,r,ln,nm,n,rows,rfl,_⟩:=h;rfl
theorem QJ.ref{cs:List D}(h:QJ cs):F6 0 cs=false:=by obtain⟨k,a,r,ln,nm,n,rows,rfl,h⟩:=h;simp[F6,D8,h]
theorem QJ.frz{cs:List D}(h:QJ cs):Jf (.agg cs)=some (.agg cs):=by obtain⟨k,a,r,ln,nm,n,rows,rfl,h⟩:=h;rfl
theorem QJ.slim{cs:List D}(h:QJ cs):(Av.slim (.agg cs)).sem prog=some (.agg cs):=by obtain⟨k,a,r,ln,nm,n,rows,rfl,h⟩:=h;rfl
theorem QJ.agg{cs:List D}(h:QJ cs):(Av.agg 7 (.agg cs)).sem prog=some (.agg cs):=by rw[M5,if_pos h.len]
theorem QJ.cl{cs:List D}(h:QJ cs):cl (.agg cs) 7=cs:=Axv h.len
theorem QJ.tells{cs:List D}(h:QJ cs){d:D}(hd:Jf d=some (.agg cs)):Ck (.agg cs) [d]:=by refine⟨h.ref,[.agg cs],?_,rfl⟩;simp[Eb,hd]
theorem A54:Jm prog 29=some 88:=by kernel_rfl
theorem QJ.app0{cs:List D}(h:QJ cs):(Av.app 27 .nilsl (.sl [cs] .exact)).sem prog=some (.sl [cs] .none):=Amt A60 Wp A54 A7y h.len h.ok (by decide)
theorem QJ.app1{rows:List (List D)}{g:Gr}{cs:List D}(h:QJ cs)(hr:∀r∈rows,QJ r)(hne:rows≠ [])(hl:rows.length≤1000):(Av.app1 27 (.sl rows g) (.sl [cs] .exact)).sem prog=some (.sl (rows++ [cs]) .none):=
 Anb A60 Wp A54 A7y h.len h.ok (by decide) (fun r hr'=>(hr r hr').len) hne (by omega)
theorem Gx:∀{rows:List (List D)},(∀r∈rows,QJ r)→Gt 0 rows=false
 | [],_=>rfl
 |r::rows,h=>by
  have h2:∀x∈rows,QJ x:=fun x hx=>h x (by simp[hx])
  simp[Gt,(h r (by simp)).ref,Gx h2]
section
variable(L:Nat)(may:List UInt8→Bool)(gr:List UInt8→Int × Bool)(W:List Wd)
def Ey(q:RS→Option (List D × RS)):Nat→Bool→RS→List (List D)→Option (List (List D) × RS)
 |0,_,s,acc=>some (acc,s)
 |m+1,first,s,acc=>if s.bad.isNone then
   (if(if first then s else Bg L W s [44]).bad.isNone then match q (if first then s else Bg L W s [44])with
    |none=>none
    |some (cs,s3)=>Ey q m false s3 (acc++ [cs])
   else Ey q m false (if first then s else Bg L W s [44]) acc)
  else some (acc,s)
def atR(s:RS):Nat:=(Cn L (W.drop s.k)).at_
def Oc(s:RS):Int:=if Pg L W s [43]then 3 else if Pg L W s [94]then 4 else if Pg L W s [45]then 5 else 0
def Li(item:RS→Option (List D × RS)):Nat→List D→RS→Option (List D × RS)
 |0,_,_=>none
 |m+1,cs,s=>if s.bad.isNone then(if Oc L W s=0 then some (cs,s)else match item ⟨s.k+1,s.bad⟩with
   |none=>none
   |some (c2,s2)=>Li item m (qc (Oc L W s) (atR L W s) false [] [] 0 (.sl [cs,c2] .none)) s2)
  else some (cs,s)
def Ab6(q:RS→Option (List D × RS))(w:Wd)(s:RS):Option (List D × RS):=
 let fin (c:List D) (s:RS):Option (List D × RS):=some (c,Bg L W s [41]);let kid (n:Nat) (s:RS):=Ey L W q n true s []
 if w.tx=Aj1 then match kid 1 s with
  |none=>none
  |some (rows,s1)=>if s1.bad.isNone && Pg L W s1 [44]then
    (if((Cn L (W.drop (s1.k+1))).k:Int) == 1 && (gr (Cn L (W.drop (s1.k+1))).tx).2 then fin (qc 6 w.at_ false [] [] (gr (Cn L (W.drop (s1.k+1))).tx).1 (.sl rows .none)) ⟨s1.k+2,s1.bad⟩
    else fin (qc 6 w.at_ false [] [] (-1) (.sl rows .none)) (Gg L W ⟨s1.k+1,s1.bad⟩))
   else fin (qc 6 w.at_ false [] [] (-1) (.sl rows .none)) s1
 else if w.tx=Abt then match kid 1 s with
  |none=>none
  |some (rows,s1)=>fin (qc 7 w.at_ false [] [] 0 (.sl rows .none)) s1
 else if w.tx=Afo then match kid 2 s with
  |none=>none
  |some (rows,s1)=>fin (qc 8 w.at_ false [] [] 0 (.sl rows .none)) s1
 else if w.tx=Zq then match kid 2 s with
  |none=>none
  |some (rows,s1)=>fin (qc 9 w.at_ false [] [] 0 (.sl rows .none)) s1
 else if w.tx=Ake then
  (if s.bad.isNone && (((Cn L (W.drop s.k)).k:Int) == 1 && Jd (Cn L (W.drop s.k)).tx)then match kid 1 (Bg L W ⟨s.k+1,s.bad⟩ [44])with
   |none=>none
   |some (rows,s1)=>fin (qc 10 w.at_ false [] (Cn L (W.drop s.k)).tx 0 (.sl rows .none)) s1
  else match kid 1 (Bg L W (Gg L W s) [44])with
   |none=>none
   |some (rows,s1)=>fin (qc 10 w.at_ false [] [] 0 (.sl rows .none)) s1)
 else if w.tx=X5 then
  (if s.bad.isNone && ((Cn L (W.drop s.k)).k:Int) == 2 then match kid 1 (Bg L W ⟨s.k+1,s.bad⟩ [44])with
   |none=>none
   |some (rows,s1)=>fin (qc 11 w.at_ false [] (Cn L (W.drop s.k)).tx 0 (.sl rows .none)) s1
  else match kid 1 (Bg L W (Gg L W s) [44])with
   |none=>none
   |some (rows,s1)=>fin (qc 11 w.at_ false [] [] 0 (.sl rows .none)) s1)
 else fin (qc 13 w.at_ false [] [] 0 (.sl [] .none)) s
def L6(q:RS→Option (List D × RS))(acc:List (List D))(s:RS):Option (List (List D) × RS):=if s.bad.isNone then(match q s with
 |none=>none
 |some (cs,s4)=>some (acc++ [cs],s4))else some (acc,s)
mutual
def H5:Nat→RS→Option (List D × RS)
 |0,_=>none
 |n+1,s=>if s.bad.isNone && Pg L W s Ib then
   let s1:RS:=⟨s.k+1,s.bad⟩;let nm:=Dw L may W s1;let s3:=Bg L W nm.2 [61]
   match L6 (H5 n) [] s3 with
   |none=>none
   |some (r1,s4)=>match L6 (H5 n) r1 (Bg L W s4 Vx)with
    |none=>none
    |some (r2,s6)=>some (qc 12 (atR L W s) false [] nm.1 0 (.sl r2 .none),s6)
  else if s.bad.isNone then Ae3 n s else some (qc 0 0 false [] [] 0 (.sl [] .none),s)
def Ae3:Nat→RS→Option (List D × RS)
 |0,_=>none
 |n+1,s=>match Xr n s with
  |none=>none
  |some (cs,s1)=>Li L W (Xr n) 1900 cs s1
def Xr:Nat→RS→Option (List D × RS)
 |0,_=>none
 |n+1,s=>
  let lab (r:Bool) (s1:RS):Option (List D × RS):=some (qc 1 (atR L W s) r (Dw L may W s1).1 [] 0 (.sl [] .none),(Dw L may W s1).2)
  if s.bad.isNone then
   (if Pg L W s [58]then lab true ⟨s.k+1,s.bad⟩
   else if Pg L W s [36]then some (qc 2 (atR L W s) false [] (Dw L may W ⟨s.k+1,s.bad⟩).1 0 (.sl [] .none),(Dw L may W ⟨s.k+1,s.bad⟩).2)
   else if Pg L W s [40]then match H5 n ⟨s.k+1,s.bad⟩with
    |none=>none
    |some (cs,s2)=>some (cs,Bg L W s2 [41])
   else if((Cn L (W.drop s.k)).k:Int) == 1 && Bl.tail.contains (Cn L (W.drop s.k)).tx then U0 n s
   else lab false s)
  else lab false s
def U0:Nat→RS→Option (List D × RS)
 |0,_=>none
 |n+1,s=>if s.k<W.length then Ab6 L gr W (H5 n) (Cn L (W.drop s.k)) (Bg L W ⟨s.k+1,s.bad⟩ [40])else none
end
end
section
variable{cf:Ah}{N:Nat}{L:Nat}{W:List Wd}{may:List UInt8→Bool}{gr:List UInt8→Int × Bool}
theorem Dc{s:RS}{t:List UInt8}(hs:s.k≤W.length):(Bg L W s t).k≤W.length:=by
 unfold Bg;split
 ·rename_i h;rw[Bool.and_eq_true]at h;exact Em hs h.2
 ·exact hs
theorem N9{s:RS}(hs:s.k≤W.length):(Dw L may W s).2.k≤W.length:=by
 unfold Dw;split
 ·rename_i h;simp only[Bool.and_eq_true,beq_iff_eq]at h;exact Er (L:=L) hs (by omega)
 ·exact hs
def Nj(W:List Wd)(q:RS→Option (List D × RS)):Prop:=∀(s:RS) (cs:List D) (s':RS),s.k≤W.length→q s=some (cs,s')→QJ cs∧s'.k≤W.length
def V7(cf:Ah)(f:FuncId)(L:Nat)(W:List Wd)(q:RS→Option (List D × RS)):Prop:=∀(s:RS) (cs:List D) (s':RS),s.k≤W.length→q s=some (cs,s')→Km cf f [] L W s (.agg cs) s'
theorem QJ.mk{k:Int}{a:Nat}{r:Bool}{ln nm:List UInt8}{n:Int}{rows:List (List D)}(h:Gt 0 rows=false):QJ (qc k a r ln nm n (.sl rows .none)):=⟨k,a,r,ln,nm,n,rows,rfl,h⟩
theorem Mm{q:RS→Option (List D × RS)}(hq:Nj W q):∀{m:Nat} {f:Bool} {s:RS} {acc rows:List (List D)} {s':RS},s.k≤W.length→(∀r∈acc,QJ r)→Ey L W q m f s acc=some (rows,s')→(∀r∈rows,QJ r)∧s'.k≤W.length∧rows.length≤acc.length+m
 |0,f,s,acc,rows,s',hs,ha,h=>by unfold Ey at h;cases h;exact⟨ha,hs,Nat.le_refl _⟩
 |m+1,f,s,acc,rows,s',hs,ha,h=>by
  unfold Ey at h;have hs2:(if f=true then s else Bg L W s [44]).k≤W.length:=by
   split
   ·exact hs
   ·exact Dc hs
  generalize(if f=true then s else Bg L W s [44])=t at h hs2;split at h
  ·split at h
   ·split at h
    ·cases h
    ·rename_i cs s3 h3;obtain⟨h4,h5⟩:=hq _ _ _ hs2 h3;obtain⟨a,b,c⟩:=Mm hq h5 (fun r hr=>by
      rcases List.mem_append.1 hr with hr|hr
      ·exact ha r hr
      ·rw[List.mem_singleton]at hr;rw[hr];exact h4) h
     simp only[List.length_append,List.length_cons,List.length_nil]at c;exact⟨a,b,by omega⟩
   ·obtain⟨a,b,c⟩:=Mm hq hs2 ha h;exact⟨a,b,by omega⟩
  ·cases h;exact⟨ha,hs,by omega⟩
variable(hK:∀f,Ba (cf f))(hW:Ng W)
 (h63:∀s:RS,Km cf 63 [] L W s (.bool s.bad.isNone) s)(h64:∀s:RS,s.k≤W.length→Km cf 64 [] L W s (.agg (Ci (Cn L (W.drop s.k)))) s)
 (h65:∀s:RS,s.k≤W.length→Km cf 65 [] L W s (.tup []) (Gg L W s))(h117:∀(s:RS) (t:List UInt8),s.k≤W.length→Km cf 117 [.str t] L W s (.bool (Pg L W s t)) s)
 (h119:∀(s:RS) (t:List UInt8),s.k≤W.length→Km cf 119 [.str t] L W s (.tup []) (Bg L W s t))
 (h118:∀s:RS,s.k≤W.length→Km cf 118 [] L W s (.str (Dw L may W s).1) (Dw L may W s).2)
theorem Aii{rows:List (List D)}{d:D}(h:Gt 0 rows=false)(hd:Jf d=some (.sl rows .none)):Ck (.sl rows .none) [d]:=by
 refine⟨by simp[D8,h],[.sl rows .none],?_,rfl⟩
 simp[Eb,hd]
def KdI(L:Nat)(W:List Wd)(q:RS→Option (List D × RS))(n:Nat)(R:List (List D) × RS)(m a:Nat)(ds:List D):Prop:=∃(i:Nat) (s:RS) (rows:List (List D)),i≤n∧m=n - i∧s.k≤W.length∧Ey L W q (n - i) (decide (i=0)) s rows=some R∧(∀r∈rows,QJ r)∧rows.length≤i∧((a=0∧rows= []∧ds= [.int .i64 (i:Int),.sl (Dt L W) .none,.int .i64 (s.k:Int),Nv s.bad])∨(a=1∧rows≠ []∧∃g gr,ds= [.sl rows gr,g,.int .i64 (i:Int),.sl (Dt L W) .none,.int .i64 (s.k:Int),Nv s.bad]))
include hK h63 h119 in
theorem Az1{q:RS→Option (List D × RS)}(h62:V7 cf 62 L W q)(hq:Nj W q)(n:Nat)(hn:n≤10)(hN:1000<N)(s:RS)(hs:s.k≤W.length)(rows:List (List D))(s':RS)(h:Ey L W q n true s []=some (rows,s')):
  Km (run C1 cf N) 260 [.int .i64 (n:Int)] L W s (.sl rows .none) s':=by
 refine Rl hK func260 bdy rfl rfl rfl (args:= [.ptr 0 0,.dyn (.int .i64 (n:Int))]) rfl (Bd0 _ _ _ _) ?_;have hgood:=(Mm hq hs (by simp) h).1
 have href:=Gx hgood;refine wp_loop (KdI L W q n (rows,s')) n (by omega) ⟨0,s,[],Nat.zero_le _,rfl,hs,by simpa using h,by simp,Nat.zero_le _,.inl ⟨rfl,rfl,rfl⟩⟩ ?_
 rintro m a ds ⟨i,t,acc,hi,rfl,ht,hgo,hacc,hal,hds⟩;have hwr:IntKind.i64.wrap ((i:Int)+1)=((i+1:Nat):Int):=wrapN (by omega)
 have hlt3:(decide ((i:Int)<(n:Int)))=decide (i<n):=Vz i n;by_cases hlt:i<n
 ·have hni:n - i=(n - (i+1))+1:=by omega
  rw[hni]at hgo;unfold Ey at hgo;have hrest:∀{x:RS} {b:List (List D)},Ey L W q (n - (i+1)) false x b=some (rows,s')→Ey L W q (n - (i+1)) (decide (i+1=0)) x b=some (rows,s'):=fun {x b} h=>by simpa using h
  rcases hds with⟨rfl,rfl,rfl⟩|⟨rfl,hne,g,gg,rfl⟩
  ·simp only[Ca,hv,tails,List.tail_cons,List.headD_cons,Aa,Da,hlt3,hlt,decide_true,Ac,if_true];refine Ad rfl (h63 t) rfl ?_;simp only[Ac];cases hb:t.bad.isNone with
   |false=>rw[hb]at hgo;simp only[BF]at hgo;cases hgo;simp only[BF,Ab];exact⟨Aii href rfl,rfl⟩
   |true=>
    rw[hb]at hgo;simp only[if_true]at hgo;simp only[if_true,Aa,Jt,Ac];cases i with
    |succ i=>
     have hd:decide ((0:Int)<((i+1:Nat):Int))=true:=decide_eq_true (by omega)
     simp only[hd,if_true];simp only[Nat.add_one_ne_zero,decide_false,BF]at hgo;refine Ad rfl (h119 t [44] ht) rfl ?_;refine Ad rfl (h63 _) rfl ?_;simp only[Ac];have hw:=Dc (L:=L) (t:= [44]) ht;cases hb2:(Bg L W t [44]).bad.isNone with
     |false=>rw[hb2]at hgo;simp only[BF]at hgo;simp only[BF,Aa,Bt,hwr,Az];exact⟨_,by omega,i+1+1,_,[],hlt,rfl,hw,hrest hgo,by simp,by simp,.inl ⟨rfl,rfl,rfl⟩⟩
     |true=>
      rw[hb2]at hgo;simp only[if_true]at hgo;split at hgo
      ·cases hgo
      rename_i cs s3 h3;obtain⟨h4,h5⟩:=hq _ _ _ hw h3;simp only[if_true];refine Ad rfl (h62 _ _ _ hw h3) rfl ?_;simp only[Aa,h4.slim,h4.agg,h4.cl,h4.app0,Bt,hwr,Bc,Az];exact⟨by simp,_,by omega,i+1+1,s3,[cs],hlt,rfl,h5,hrest hgo,by simpa using h4,by simp,.inr ⟨rfl,by simp,_,_,rfl⟩⟩
    |zero=>
     have hd:decide ((0:Int)<((0:Nat):Int))=false:=rfl;simp only[hd,BF];simp only[decide_true,if_true,hb]at hgo;refine Ad rfl (h63 t) rfl ?_;simp only[Ac,hb,if_true];split at hgo
     ·cases hgo
     rename_i cs s3 h3;obtain⟨h4,h5⟩:=hq _ _ _ ht h3;refine Ad rfl (h62 _ _ _ ht h3) rfl ?_;simp only[Aa,h4.slim,h4.agg,h4.cl,h4.app0,Bt,hwr,Bc,Az];exact⟨by simp,_,by omega,0+1,s3,[cs],hlt,rfl,h5,hrest hgo,by simpa using h4,by simp,.inr ⟨rfl,by simp,_,_,rfl⟩⟩
  ·have hal2:acc.length≤1000:=by omega
   have hi0:i≠0:=fun h=>by subst h;exact hne (List.length_eq_zero_iff.1 (by omega))
   simp only[Ca,hv,tails,List.tail_cons,List.headD_cons,Aa,Da,hlt3,hlt,decide_true,Ac,if_true];refine Ad rfl (h63 t) rfl ?_;simp only[Ac];cases hb:t.bad.isNone with
   |false=>rw[hb]at hgo;simp only[BF]at hgo;cases hgo;simp only[BF,Ab];exact⟨Aii href rfl,rfl⟩
   |true=>
    rw[hb]at hgo;simp only[if_true]at hgo;simp only[if_true,Aa,Jt,Ac];have hd:decide ((0:Int)<(i:Int))=true:=decide_eq_true (by omega)
    simp only[hd,if_true];simp only[hi0,decide_false,BF]at hgo;refine Ad rfl (h119 t [44] ht) rfl ?_;refine Ad rfl (h63 _) rfl ?_;simp only[Ac];have hw:=Dc (L:=L) (t:= [44]) ht;cases hb2:(Bg L W t [44]).bad.isNone with
    |false=>rw[hb2]at hgo;simp only[BF]at hgo;simp only[BF,Aa,Bt,hwr,Bc,Az];exact⟨by simp,_,by omega,i+1,_,acc,hlt,rfl,hw,hrest hgo,hacc,by omega,.inr ⟨rfl,hne,_,_,rfl⟩⟩
    |true=>
     rw[hb2]at hgo;simp only[if_true]at hgo;split at hgo
     ·cases hgo
     rename_i cs s3 h3;obtain⟨h4,h5⟩:=hq _ _ _ hw h3;simp only[if_true];refine Ad rfl (h62 _ _ _ hw h3) rfl ?_;simp only[Aa,h4.slim,h4.agg,h4.cl,h4.app1 hacc hne hal2,Bt,hwr,Bc,Az];refine⟨by simp,by simp,_,by omega,i+1,s3,acc++ [cs],hlt,rfl,h5,hrest hgo,fun r hr=>?_,by simp;omega,.inr ⟨rfl,by simp,_,_,rfl⟩⟩
     rcases List.mem_append.1 hr with hr|hr
     ·exact hacc r hr
     ·rw[List.mem_singleton]at hr;rw[hr];exact h4
 ·have hin:i=n:=by omega
  subst hin;rw[Nat.sub_self]at hgo;unfold Ey at hgo;cases hgo;rcases hds with⟨rfl,rfl,rfl⟩|⟨rfl,hne,g,gg,rfl⟩
  ·simp only[Ca,hv,tails,List.tail_cons,List.headD_cons,Aa,Da,hlt3,hlt,decide_false,BF,Ac,Ab];exact⟨Aii href rfl,rfl⟩
  ·simp only[Ca,hv,tails,List.tail_cons,List.headD_cons,Aa,Da,hlt3,hlt,decide_false,BF,Ac,Ab];exact⟨Aii href rfl,rfl⟩
end
section
variable{cf:Ah}{N:Nat}{L:Nat}{W:List Wd}{may:List UInt8→Bool}{gr:List UInt8→Int × Bool}
variable(hK:∀f,Ba (cf f))(hW:Ng W)
 (h63:∀s:RS,Km cf 63 [] L W s (.bool s.bad.isNone) s)(h64:∀s:RS,s.k≤W.length→Km cf 64 [] L W s (.agg (Ci (Cn L (W.drop s.k)))) s)
 (h65:∀s:RS,s.k≤W.length→Km cf 65 [] L W s (.tup []) (Gg L W s))(h117:∀(s:RS) (t:List UInt8),s.k≤W.length→Km cf 117 [.str t] L W s (.bool (Pg L W s t)) s)
 (h119:∀(s:RS) (t:List UInt8),s.k≤W.length→Km cf 119 [.str t] L W s (.tup []) (Bg L W s t))
 (h118:∀s:RS,s.k≤W.length→Km cf 118 [] L W s (.str (Dw L may W s).1) (Dw L may W s).2)
theorem Gy{cs:List D}(h:QJ cs){d:D}(hd:Jf d=some (.agg cs)):Ck (.agg cs) [d]:=h.tells hd
theorem Yr{cs c:List D}{s1 s':RS}(h:some (c,Bg L W s1 [41])=some (cs,s')):c=cs∧Bg L W s1 [41]=s':=by cases h;exact⟨rfl,rfl⟩
theorem O4(rows:List (List D))(g:Gr):(Av.cell (.sl rows g)).sem prog=some (.sl rows g):=rfl
include hW h63 h64 h65 h117 h119 hK in
theorem A0n{q:RS→Option (List D × RS)}(hq:Nj W q)(h260:∀(n:Nat),n≤10→∀(s:RS),s.k≤W.length→∀(rows:List (List D)) (s':RS),Ey L W q n true s []=some (rows,s')→Km cf 260 [.int .i64 (n:Int)] L W s (.sl rows .none) s')
  (h261:∀t:List UInt8,t.length≤1000→Ao cf 261 [.str t,.int .i64 1000] (.tup [.int .i64 (gr t).1,.bool (gr t).2]))(hlen:∀w∈W,w.tx.length≤1000)(w:Wd)(hw:Bl.tail.contains w.tx=true)(s:RS)(hs:s.k≤W.length)(cs:List D)(s':RS)
  (h:Ab6 L gr W q w s=some (cs,s')):Km (run C1 cf N) 224 [.agg (Ci w)] L W s (.agg cs) s':=by
 refine Rl hK func224 bdy rfl rfl rfl rfl (Bem _ _ _ _) ?_;have hWl:=hW.1;have hagg:(Av.agg 3 (.agg (Ci w))).sem prog=some (.agg [.int .i64 (w.k:Int),.int .i64 (w.at_:Int),.str w.tx]):=rfl;simp only[Aa,hagg,gc,D.cells,List.getD_cons_zero,List.getD_cons_succ,A9,Al,if_true,Ae,Di,Ac];refine⟨rfl,?_⟩;have hhd:(Cn L (W.drop s.k)).tx.length≤1000:=by
  cases hd:W.drop s.k with
  |nil=>simp[Cn,Nq]
  |cons v vs=>exact hlen v (List.mem_of_mem_drop (i:=s.k) (by rw[hd];simp))
 have hkid:∀(n:Nat) (t:RS) (rows:List (List D)) (s1:RS) (k:Int) (nm:List UInt8) (m:Int) (cs:List D) (s':RS),n≤10→t.k≤W.length→Ey L W q n true t []=some (rows,s1)→some (qc k w.at_ false [] nm m (.sl rows .none),Bg L W s1 [41])=some (cs,s')→(∀r∈rows,QJ r)∧s1.k≤W.length∧Km cf 260 [.int .i64 (n:Int)] L W t (.sl rows .none) s1∧Km cf 119 [.str [41]] L W s1 (.tup []) s'∧cs=qc k w.at_ false [] nm m (.sl rows .none)∧QJ cs:=fun n t rows s1 k nm m cs s' hn ht hk h=>by
  obtain⟨a,b,_⟩:=Mm hq ht (by simp) hk
  obtain⟨rfl,rfl⟩:=Yr h;exact⟨a,b,h260 n hn t ht rows s1 hk,h119 s1 [41] b,rfl,QJ.mk (Gx a)⟩
 unfold Ab6 at h;dsimp only at h;by_cases h1:w.tx=Aj1
 ·rw[if_pos h1]at h;rw[show(w.tx == [100,101,112,115])=true from eqB h1];simp only[if_true];split at h
  ·cases h
  rename_i rows s1 hk;obtain⟨a,b,_⟩:=Mm hq hs (by simp) hk
  refine Ad rfl (h260 1 (by decide) s hs rows s1 hk) rfl ?_
  simp only[Aa,O4,Ae];refine⟨rfl,Ad rfl (h63 s1) rfl ?_⟩;simp only[Ac];have hplain:some (qc 6 w.at_ false [] [] (-1) (.sl rows .none),Bg L W s1 [41])=some (cs,s')→∀T:D→List D→Tree,(∀x y,T x y= .chk [.int .i64 (w.at_:Int),.sl rows .none] (.leaf [(.agg [(.int .i64 6),.int .i64 (w.at_:Int),(.bool false),(.str []),(.str []),(.int .i64 (-1)),.sl rows .none])] [(gl y 3)]))→wp prog cf N (fun rs os=>Ck (.agg cs) rs∧os= [Nu L W s']) (.meth 119 [] [none,(some (.str [41]))] [] (gl (Nu L W s1) 3) T) []:=fun h T hT=>by obtain⟨rfl,rfl⟩:=Yr h;refine Ad rfl (h119 s1 [41] b) rfl ?_;rw[hT];simp only[Ae,Ab];exact⟨rfl,Gy (QJ.mk (Gx a)) rfl,rfl⟩
  cases hb:s1.bad.isNone with
  |false=>rw[hb]at h;simp only[Bool.false_and,BF]at h ⊢;exact hplain h _ fun _ _=>rfl
  |true=>
   rw[hb]at h;simp only[Bool.true_and,if_true]at h ⊢;refine Ad rfl (h117 s1 [44] b) rfl ?_;simp only[Ac];cases hc:Pg L W s1 [44]with
   |false=>rw[hc]at h;simp only[BF]at h ⊢;exact hplain h _ fun _ _=>rfl
   |true=>
    rw[hc]at h;have hlt:=Em b hc;simp only[if_true]at h;simp only[if_true,Nu,gd,List.getD_cons_zero,List.getD_cons_succ,Aa,Bt,wrapN (show s1.k<1000000 by omega),A9,Al,Ae]
    refine⟨rfl,?_⟩;have hm:=h64 (⟨s1.k+1,s1.bad⟩:RS) hlt;refine Ad rfl hm rfl ?_;have hhd2:(Cn L (W.drop (s1.k+1))).tx.length≤1000:=by
     cases hd:W.drop (s1.k+1)with
     |nil=>simp[Cn,Nq]
     |cons v vs=>exact hlen v (List.mem_of_mem_drop (i:=s1.k+1) (by rw[hd];simp))
    simp only[Ci,Aa,X3];refine Aw rfl (h261 _ hhd2) ?_;simp only[Aa,Hg,GC];refine Ad rfl hm rfl ?_;simp only[Ci,Aa,Q8,Nn,Ac];have hfail:some (qc 6 w.at_ false [] [] (-1) (.sl rows .none),Bg L W (Gg L W ⟨s1.k+1,s1.bad⟩) [41])=some (cs,s')→∀T:D→List D→Tree,(∀x y,T x y= .meth 119 [] [none,(some (.str [41]))] [] (gl y 3) fun x28 x29=> .chk [.int .i64 (w.at_:Int),.sl rows .none] (.leaf [(.agg [(.int .i64 6),.int .i64 (w.at_:Int),(.bool false),(.str []),(.str []),(.int .i64 (-1)),.sl rows .none])] [(gl x29 3)]))→wp prog cf N (fun rs os=>Ck (.agg cs) rs∧os= [Nu L W s']) (.meth 65 [] [none] [] (gl (Nu L W ⟨s1.k+1,s1.bad⟩) 3) T) []:=fun h T hT=>by obtain⟨rfl,rfl⟩:=Yr h;refine Ad rfl (h65 _ hlt) rfl ?_;rw[hT];refine Ad rfl (h119 _ [41] hlt) rfl ?_;simp only[Ae,Ab];exact⟨rfl,Gy (QJ.mk (Gx a)) rfl,rfl⟩
    cases hk1:((Cn L (W.drop (s1.k+1))).k:Int) == 1 with
    |false=>
     rw[hk1]at h;rw[show(((Cn L (W.drop (s1.k+1))).k:Int) !=1)=true from by rw[bne,hk1];rfl]
     simp only[Bool.false_and,BF]at h;simp only[if_true];exact hfail h _ fun _ _=>rfl
    |true=>
     rw[hk1]at h;rw[show(((Cn L (W.drop (s1.k+1))).k:Int) !=1)=false from by rw[bne,hk1];rfl]
     simp only[Bool.true_and]at h;simp only[BF,Aa,K5,Ac];cases hg:(gr (Cn L (W.drop (s1.k+1))).tx).2 with
     |false=>rw[hg]at h;simp only[BF]at h;simp only[Bool.not_false,if_true];exact hfail h _ fun _ _=>rfl
     |true=>
      rw[hg]at h;simp only[if_true]at h;obtain⟨rfl,rfl⟩:=Yr h;have hlt2:s1.k+1<W.length:=Er (L:=L) (s:=⟨s1.k+1,s1.bad⟩) hlt (by rw[beq_iff_eq]at hk1;show(Cn L (W.drop (s1.k+1))).k≠4;omega)
      simp only[Bool.not_true,BF,Nu,List.getD_cons_zero,List.getD_cons_succ,Aa,Bt,wrapN (show s1.k+1<1000000 by omega),A9,Al,if_true,Ae]
      refine⟨rfl,rfl,?_⟩;refine Ad rfl (h119 ⟨s1.k+2,s1.bad⟩ [41] hlt2) rfl ?_;simp only[Ae,Ab];exact⟨rfl,Gy (QJ.mk (Gx a)) rfl,rfl⟩
 rw[if_neg h1]at h;rw[show(w.tx == [100,101,112,115])=false from neB h1];simp only[BF];have hone:∀(n:Nat) (k:Int),n≤10→(match Ey L W q n true s []with
   |none=>none
   |some (rows,s1)=>some (qc k w.at_ false [] [] 0 (.sl rows .none),Bg L W s1 [41]))=some (cs,s')→∀T:D→List D→Tree,(∀x y,T x y= .bind (.cell x) fun x10=> .chk [x10] (.meth 119 [] [none,(some (.str [41]))] [] (gl y 3) fun x11 x12=> .chk [.int .i64 (w.at_:Int),x10] (.leaf [(.agg [(.int .i64 k),.int .i64 (w.at_:Int),(.bool false),(.str []),(.str []),(.int .i64 0),x10])] [(gl x12 3)])))→
   wp prog cf N (fun rs os=>Ck (.agg cs) rs∧os= [Nu L W s']) (.meth 260 [] [none,(some (.int .i64 (n:Int)))] [] [.sl (Dt L W) .none,.int .i64 (s.k:Int),Nv s.bad] T) []:=fun n k hn h T hT=>by
  split at h
  ·cases h
  rename_i rows s1 hk;obtain⟨a,b,c,d,rfl,e⟩:=hkid n s rows s1 k [] 0 cs s' hn hs hk h;refine Ad rfl c rfl ?_;rw[hT];simp only[Aa,O4,Ae];refine⟨rfl,Ad rfl d rfl ?_⟩;simp only[Ae,Ab];exact⟨rfl,Gy e rfl,rfl⟩
 by_cases h2:w.tx=Abt
 ·rw[if_pos h2]at h;rw[show(w.tx == [114,100,101,112,115])=true from eqB h2];simp only[if_true];exact hone 1 7 (by decide) h _ fun _ _=>rfl
 rw[if_neg h2]at h;rw[show(w.tx == [114,100,101,112,115])=false from neB h2];simp only[BF];by_cases h3:w.tx=Afo
 ·rw[if_pos h3]at h;rw[show(w.tx == [115,111,109,101,112,97,116,104])=true from eqB h3];simp only[if_true];exact hone 2 8 (by decide) h _ fun _ _=>rfl
 rw[if_neg h3]at h;rw[show(w.tx == [115,111,109,101,112,97,116,104])=false from neB h3];simp only[BF];by_cases h4:w.tx=Zq
 ·rw[if_pos h4]at h;rw[show(w.tx == [97,108,108,112,97,116,104,115])=true from eqB h4];simp only[if_true];exact hone 2 9 (by decide) h _ fun _ _=>rfl
 rw[if_neg h4]at h;rw[show(w.tx == [97,108,108,112,97,116,104,115])=false from neB h4];simp only[BF];have hm:=h64 s hs;have haggd:(Av.agg 3 (.agg (Ci (Cn L (W.drop s.k))))).sem prog=some (.agg [.int .i64 ((Cn L (W.drop s.k)).k:Int),.int .i64 ((Cn L (W.drop s.k)).at_:Int),.str (Cn L (W.drop s.k)).tx]):=rfl;have hafter:∀(k:Int) (nm:List UInt8) (t:RS),t.k≤W.length→(match Ey L W q 1 true (Bg L W t [44]) []with
   |none=>none
   |some (rows,s1)=>some (qc k w.at_ false [] nm 0 (.sl rows .none),Bg L W s1 [41]))=some (cs,s')→∀T:D→List D→Tree,(∀x y,T x y= .meth 260 [] [none,(some (.int .i64 1))] [] (gl y 3) fun x23 x24=> .bind (.cell x23) fun x25=> .chk [x25] (.meth 119 [] [none,(some (.str [41]))] [] (gl x24 3) fun x26 x27=> .chk [.int .i64 (w.at_:Int),.str nm,x25] (.leaf [(.agg [(.int .i64 k),.int .i64 (w.at_:Int),(.bool false),(.str []),.str nm,(.int .i64 0),x25])] [(gl x27 3)])))∨(nm= []∧∀x y,T x y= .meth 260 [] [none,(some (.int .i64 1))] [] (gl y 3) fun x23 x24=> .bind (.cell x23) fun x25=> .chk [x25] (.meth 119 [] [none,(some (.str [41]))] [] (gl x24 3) fun x26 x27=> .chk [.int .i64 (w.at_:Int),x25] (.leaf [(.agg [(.int .i64 k),.int .i64 (w.at_:Int),(.bool false),(.str []),.str [],(.int .i64 0),x25])] [(gl x27 3)])))→
   wp prog cf N (fun rs os=>Ck (.agg cs) rs∧os= [Nu L W s']) (.meth 119 [] [none,(some (.str [44]))] [] (Nu L W t) T) []:=fun k nm t ht h T hT=>by
  split at h
  ·cases h
  rename_i rows s1 hk;obtain⟨a,b,c,d,rfl,e⟩:=hkid 1 _ rows s1 k nm 0 cs s' (by decide) (Dc ht) hk h
  refine Ad rfl (h119 t [44] ht) rfl ?_;rcases hT with hT|⟨rfl,hT⟩
  ·rw[hT];refine Ad rfl c rfl ?_;simp only[Aa,O4,Ae];refine⟨rfl,Ad rfl d rfl ?_⟩;simp only[Ae,Ab];exact⟨rfl,Gy e rfl,rfl⟩
  ·rw[hT];refine Ad rfl c rfl ?_;simp only[Aa,O4,Ae];refine⟨rfl,Ad rfl d rfl ?_⟩;simp only[Ae,Ab];exact⟨rfl,Gy e rfl,rfl⟩
 have hfl:∀(k:Int),(match Ey L W q 1 true (Bg L W (Gg L W s) [44]) []with
   |none=>none
   |some (rows,s1)=>some (qc k w.at_ false [] [] 0 (.sl rows .none),Bg L W s1 [41]))=some (cs,s')→∀T:D→List D→Tree,(∀x y,T x y= .meth 119 [] [none,(some (.str [44]))] [] (gl y 3) fun x22 x23=> .meth 260 [] [none,(some (.int .i64 1))] [] (gl x23 3) fun x24 x25=> .bind (.cell x24) fun x26=> .chk [x26] (.meth 119 [] [none,(some (.str [41]))] [] (gl x25 3) fun x27 x28=> .chk [.int .i64 (w.at_:Int),x26] (.leaf [(.agg [(.int .i64 k),.int .i64 (w.at_:Int),(.bool false),(.str []),(.str []),(.int .i64 0),x26])] [(gl x28 3)])))→
   wp prog cf N (fun rs os=>Ck (.agg cs) rs∧os= [Nu L W s']) (.meth 65 [] [none] [] (Nu L W s) T) []:=fun k h T hT=>by
  refine Ad rfl (h65 s hs) rfl ?_;rw[hT];exact hafter k [] (Gg L W s) hs h _ (.inr ⟨rfl,fun _ _=>rfl⟩)
 by_cases h5:w.tx=Ake
 ·rw[if_pos h5]at h;rw[show(w.tx == [107,105,110,100])=true from eqB h5];simp only[if_true];refine Ad rfl hm rfl ?_;simp only[Aa,haggd,List.getD_cons_zero,List.getD_cons_succ,Ae];refine⟨rfl,Ad rfl (h63 s) rfl ?_⟩;simp only[Ac];cases hb:s.bad.isNone with
  |false=>rw[hb]at h;simp only[Bool.false_and,BF]at h ⊢;exact hfl 10 h _ fun _ _=>rfl
  |true=>
   rw[hb]at h;simp only[Bool.true_and]at h;simp only[if_true,Aa,En,Ac];cases hk:((Cn L (W.drop s.k)).k:Int) == 1 with
   |false=>rw[hk]at h;simp only[Bool.false_and,BF]at h ⊢;exact hfl 10 h _ fun _ _=>rfl
   |true=>
    rw[hk]at h;have hlt:=Er (L:=L) hs (by rw[beq_iff_eq]at hk;omega)
    have hstep:IntKind.i64.wrap ((s.k:Int)+1)=((s.k+1:Nat):Int):=wrapN (by omega)
    simp only[Bool.true_and]at h;simp only[if_true,Aa,Di,Ac];unfold Jd at h;cases ha:(Cn L (W.drop s.k)).tx == [114,117,108,101]with
    |true=>rw[ha]at h;simp only[Bool.true_or,if_true]at h;simp only[if_true,Aa,A9,Al,Ae,Nu,gd,List.getD_cons_zero,List.getD_cons_succ,Bt,hstep];refine⟨rfl,rfl,?_⟩;exact hafter 10 _ ⟨s.k+1,s.bad⟩ hlt h _ (.inl fun _ _=>rfl)
    |false=>
     rw[ha]at h;simp only[Bool.false_or]at h;simp only[BF];cases hb2:(Cn L (W.drop s.k)).tx == [109,97,100,101]with
     |true=>rw[hb2]at h;simp only[Bool.true_or,if_true]at h;simp only[if_true,Aa,A9,Al,Ae,Nu,gd,List.getD_cons_zero,List.getD_cons_succ,Bt,hstep];refine⟨rfl,rfl,?_⟩;exact hafter 10 _ ⟨s.k+1,s.bad⟩ hlt h _ (.inl fun _ _=>rfl)
     |false=>
      rw[hb2]at h;simp only[Bool.false_or]at h;simp only[BF];cases hc:(Cn L (W.drop s.k)).tx == [115,111,117,114,99,101]with
      |true=>rw[hc]at h;simp only[if_true]at h;simp only[if_true,Aa,A9,Al,Ae,Nu,gd,List.getD_cons_zero,List.getD_cons_succ,Bt,hstep];refine⟨rfl,rfl,?_⟩;exact hafter 10 _ ⟨s.k+1,s.bad⟩ hlt h _ (.inl fun _ _=>rfl)
      |false=>rw[hc]at h;simp only[BF]at h ⊢;exact hfl 10 h _ fun _ _=>rfl
 rw[if_neg h5]at h;rw[show(w.tx == [107,105,110,100])=false from neB h5];simp only[BF];by_cases h6:w.tx=X5
 ·rw[if_pos h6]at h;rw[show(w.tx == [102,105,108,116,101,114])=true from eqB h6];simp only[if_true];refine Ad rfl (h63 s) rfl ?_;simp only[Ac];cases hb:s.bad.isNone with
  |false=>rw[hb]at h;simp only[Bool.false_and,BF]at h ⊢;exact hfl 11 h _ fun _ _=>rfl
  |true=>
   rw[hb]at h;simp only[Bool.true_and]at h;simp only[if_true];refine Ad rfl hm rfl ?_;simp only[Ci,Aa,Q8,En,Ac];cases hk:((Cn L (W.drop s.k)).k:Int) == 2 with
   |false=>rw[hk]at h;simp only[BF]at h ⊢;exact hfl 11 h _ fun _ _=>rfl
   |true=>
    rw[hk]at h;have hlt:=Er (L:=L) hs (by rw[beq_iff_eq]at hk;omega)
    have hstep:IntKind.i64.wrap ((s.k:Int)+1)=((s.k+1:Nat):Int):=wrapN (by omega)
    simp only[if_true]at h ⊢;refine Ad rfl hm rfl ?_;simp only[Ci,Aa,X3,A9,Al,if_true,Ae,Nu,gd,List.getD_cons_zero,List.getD_cons_succ,Bt,hstep];refine⟨rfl,rfl,?_⟩;exact hafter 11 _ ⟨s.k+1,s.bad⟩ hlt h _ (.inl fun _ _=>rfl)
 rw[if_neg h6]at h;rw[show(w.tx == [102,105,108,116,101,114])=false from neB h6];simp only[BF];obtain⟨rfl,rfl⟩:=Yr h;have hall:w.tx=A76:=by simp only[Bl,List.tail_cons,List.contains_cons,List.contains_nil,Bool.or_false,Bool.or_eq_true,beq_iff_eq]at hw;rcases hw with h|h|h|h|h|h|h<;>first|exact h|exact absurd h (by assumption)
 rw[show(w.tx == [97,108,108])=true from eqB hall];simp only[if_true];refine Ad rfl (h119 s [41] hs) rfl ?_;simp only[Ae,Ab];exact⟨rfl,Gy (QJ.mk rfl) rfl,rfl⟩
end
section
variable{cf:Ah}{N:Nat}{L:Nat}{W:List Wd}{may:List UInt8→Bool}{gr:List UInt8→Int × Bool}
variable(hK:∀f,Ba (cf f))(hW:Ng W)
 (h63:∀s:RS,Km cf 63 [] L W s (.bool s.bad.isNone) s)(h64:∀s:RS,s.k≤W.length→Km cf 64 [] L W s (.agg (Ci (Cn L (W.drop s.k)))) s)
 (h65:∀s:RS,s.k≤W.length→Km cf 65 [] L W s (.tup []) (Gg L W s))(h117:∀(s:RS) (t:List UInt8),s.k≤W.length→Km cf 117 [.str t] L W s (.bool (Pg L W s t)) s)
 (h119:∀(s:RS) (t:List UInt8),s.k≤W.length→Km cf 119 [.str t] L W s (.tup []) (Bg L W s t))
 (h118:∀s:RS,s.k≤W.length→Km cf 118 [] L W s (.str (Dw L may W s).1) (Dw L may W s).2)
def Ak2(L:Nat)(may:List UInt8→Bool)(W:List Wd)(q:RS→Option (List D × RS))(c:RS→Option (List D × RS))(s:RS):Option (List D × RS):=
 let lab (r:Bool) (s1:RS):Option (List D × RS):=some (qc 1 (atR L W s) r (Dw L may W s1).1 [] 0 (.sl [] .none),(Dw L may W s1).2)
 if s.bad.isNone then
  (if Pg L W s [58]then lab true ⟨s.k+1,s.bad⟩
  else if Pg L W s [36]then some (qc 2 (atR L W s) false [] (Dw L may W ⟨s.k+1,s.bad⟩).1 0 (.sl [] .none),(Dw L may W ⟨s.k+1,s.bad⟩).2)
  else if Pg L W s [40]then match q ⟨s.k+1,s.bad⟩with
   |none=>none
   |some (cs,s2)=>some (cs,Bg L W s2 [41])
  else if((Cn L (W.drop s.k)).k:Int) == 1 && Bl.tail.contains (Cn L (W.drop s.k)).tx then c s
  else lab false s)
 else lab false s
theorem Aeq{t:List UInt8}(h:(t == Ib)=false):Bl.contains t=Bl.tail.contains t:=by have:Bl=Ib::Bl.tail:=rfl;rw[this,List.contains_cons,h,Bool.false_or];rfl
include hW h63 h64 h117 h118 h119 hK in
theorem A3m{q c:RS→Option (List D × RS)}(hq:Nj W q)(hcg:Nj W c)(h62:V7 cf 62 L W q)
  (h224:∀(s:RS) (cs:List D) (s':RS),s.k<W.length→Bl.tail.contains (Cn L (W.drop s.k)).tx=true→c s=some (cs,s')→Km cf 224 [.agg (Ci (Cn L (W.drop s.k)))] L W (Bg L W ⟨s.k+1,s.bad⟩ [40]) (.agg cs) s')
  (h223:Ao cf 223 [] (.sl (Lf Bl) .none))(h222:∀t:List UInt8,Ao cf 222 [.sl (Lf Bl) .none,.str t] (.int .i64 (Ja Bl t)))
  (s:RS)(hs:s.k≤W.length)(cs:List D)(s':RS)(h:Ak2 L may W q c s=some (cs,s')):Km (run C1 cf N) 180 [] L W s (.agg cs) s':=by
 refine Rl hK func180 bdy rfl rfl rfl rfl (Bfe _ _ _) ?_;have hWl:=hW.1;have hm:=h64 s hs;have hagg:(Av.agg 3 (.agg (Ci (Cn L (W.drop s.k))))).sem prog=some (.agg [.int .i64 ((Cn L (W.drop s.k)).k:Int),.int .i64 ((Cn L (W.drop s.k)).at_:Int),.str (Cn L (W.drop s.k)).tx]):=rfl;refine Ad rfl hm rfl ?_;simp only[Aa,hagg,gc,D.cells,List.getD_cons_zero,List.getD_cons_succ,Ae];refine⟨rfl,Ad rfl (h63 s) rfl ?_⟩;simp only[Aa,K5,Ac];unfold Ak2 at h;dsimp only at h;have hlab:∀(r:Bool) (t:RS),t.k≤W.length→some (qc 1 (atR L W s) r (Dw L may W t).1 [] 0 (.sl [] .none),(Dw L may W t).2)=some (cs,s')→∀T:D→List D→Tree,(∀x y,T x y= .bind (.cell x) fun x11=> .bind (.cell (.int .i64 ((Cn L (W.drop s.k)).at_:Int))) fun x12=> .chk [x12,x11] (.leaf [(.agg [(.int .i64 1),x12,(.bool r),x11,(.str []),(.int .i64 0),.nilsl])] [(gl y 3)]))→wp prog cf N (fun rs os=>Ck (.agg cs) rs∧os= [Nu L W s']) (.meth 118 [] [none] [] (Nu L W t) T) []:=fun r t ht h T hT=>by cases h;refine Ad rfl (h118 t ht) rfl ?_;rw[hT];simp only[Aa,A9,Al,if_true,Ae,Ab];exact⟨rfl,Gy (QJ.mk rfl) rfl,rfl⟩
 cases hb:s.bad.isNone with
 |false=>rw[hb]at h;simp only[BF]at h;simp only[Bool.not_false,if_true];exact hlab false s hs h _ fun _ _=>rfl
 |true=>
  rw[hb]at h;simp only[if_true]at h;simp only[Bool.not_true,BF];have hstep:s.k<W.length→IntKind.i64.wrap ((s.k:Int)+1)=((s.k+1:Nat):Int):=fun _=>wrapN (by omega)
  refine Ad rfl (h117 s [58] hs) rfl ?_;simp only[Ac];split at h
  ·rename_i hi;have hlt:=Em hs hi;rw[if_pos hi];simp only[Nu,gd,List.getD_cons_zero,List.getD_cons_succ,Aa,Bt,hstep hlt,A9,Al,if_true,Ae];exact⟨rfl,hlab true ⟨s.k+1,s.bad⟩ hlt h _ fun _ _=>rfl⟩
  rename_i hi;rw[if_neg hi];refine Ad rfl (h117 s [36] hs) rfl ?_;simp only[Ac];split at h
  ·rename_i hi;have hlt:=Em hs hi;rw[if_pos hi];cases h;simp only[Nu,gd,List.getD_cons_zero,List.getD_cons_succ,Aa,Bt,hstep hlt,A9,Al,if_true,Ae];refine⟨rfl,Ad rfl (h118 ⟨s.k+1,s.bad⟩ hlt) rfl ?_⟩;simp only[Aa,A9,Al,if_true,Ae,Ab];exact⟨rfl,Gy (QJ.mk rfl) rfl,rfl⟩
  rename_i hi;rw[if_neg hi];refine Ad rfl (h117 s [40] hs) rfl ?_;simp only[Ac];split at h
  ·rename_i hi;have hlt:=Em hs hi;rw[if_pos hi];split at h
   ·cases h
   rename_i cs1 s2 h2;cases h;obtain⟨h3,h4⟩:=hq _ _ _ (show(⟨s.k+1,s.bad⟩:RS).k≤W.length from hlt) h2;simp only[Nu,gd,List.getD_cons_zero,List.getD_cons_succ,Aa,Bt,hstep hlt,A9,Al,if_true,Ae];refine⟨rfl,Ad rfl (h62 ⟨s.k+1,s.bad⟩ _ _ hlt h2) rfl ?_⟩;simp only[Aa,h3.agg,Ae,h3.cl];refine⟨h3.ok,Ad rfl (h119 s2 [41] h4) rfl ?_⟩;simp only[Ae,Ab];exact⟨h3.ok,Gy h3 h3.frz,rfl⟩
  rename_i hi;rw[if_neg hi];simp only[Aa,En,Ac];have hne:(((Cn L (W.drop s.k)).k:Int) == 1 && Bl.tail.contains (Cn L (W.drop s.k)).tx)=false→some (qc 1 (atR L W s) false (Dw L may W s).1 [] 0 (.sl [] .none),(Dw L may W s).2)=some (cs,s'):=fun hx=>by rw[hx]at h;simpa using h
  cases hk:((Cn L (W.drop s.k)).k:Int) == 1 with
  |false=>simp only[BF];exact hlab false s hs (hne (by rw[hk];rfl)) _ fun _ _=>rfl
  |true=>
   have hlt:=Er (L:=L) hs (by rw[beq_iff_eq]at hk;omega)
   simp only[if_true,Ag7,Ac];cases hl:(Cn L (W.drop s.k)).tx == [108,101,116]with
   |true=>
    simp only[Bool.not_true,BF];have:Bl.tail.contains (Cn L (W.drop s.k)).tx=false:=by rw[beq_iff_eq]at hl;rw[hl];rfl
    exact hlab false s hs (hne (by rw[this];simp)) _ fun _ _=>rfl
   |false=>
    simp only[Bool.not_false,if_true];refine Aw rfl h223 ?_;refine Aw rfl (h222 _) ?_;simp only[Aa,Lx,Yy,Ac];rw[Aeq (show((Cn L (W.drop s.k)).tx == Ib)=false from hl)];cases hc:Bl.tail.contains (Cn L (W.drop s.k)).tx with
    |false=>simp only[BF];exact hlab false s hs (hne (by rw[hc];simp)) _ fun _ _=>rfl
    |true=>rw[hk,hc]at h;simp only[Bool.and_self,if_true]at h;simp only[if_true,Nu,gd,List.getD_cons_zero,List.getD_cons_succ,Bt,hstep hlt,A9,Al,Ae];refine⟨rfl,Ad rfl (h119 ⟨s.k+1,s.bad⟩ [40] hlt) rfl ?_⟩;obtain⟨h3,h4⟩:=hcg _ _ _ hs h;refine Ad rfl (h224 s cs s' hlt hc h) rfl ?_;simp only[Aa,h3.agg,Ae,h3.cl,Ab];exact⟨h3.ok,Gy h3 h3.frz,rfl⟩
theorem Ve{it:RS→Option (List D × RS)}(hit:Nj W it):∀{m:Nat} {cs:List D} {s:RS} {c':List D} {s':RS},QJ cs→s.k≤W.length→Li L W it m cs s=some (c',s')→QJ c'∧s'.k≤W.length
 |0,cs,s,c',s',hc,hs,h=>by simp[Li]at h
 |m+1,cs,s,c',s',hc,hs,h=>by
  unfold Li at h;split at h
  ·split at h
   ·cases h;exact⟨hc,hs⟩
   ·rename_i hz;have hlt:s.k<W.length:=by
     unfold Oc at hz;split at hz
     ·exact Em hs (by assumption)
     ·split at hz
      ·exact Em hs (by assumption)
      ·split at hz
       ·exact Em hs (by assumption)
       ·exact absurd rfl hz
    split at h
    ·cases h
    ·rename_i c2 s2 h2;obtain⟨h3,h4⟩:=hit _ _ _ (show(⟨s.k+1,s.bad⟩:RS).k≤W.length from hlt) h2;exact Ve hit (QJ.mk (Gx fun r hr=>by
      rcases List.mem_cons.1 hr with rfl|hr
      ·exact hc
      ·rw[List.mem_singleton]at hr;rw[hr];exact h3)) h4 h
  ·cases h;exact⟨hc,hs⟩
include hW h63 h64 h117 hK in
theorem A4q{it:RS→Option (List D × RS)}(hit:Nj W it)(h180:V7 cf 180 L W it)(m:Nat)(hm:m<N)(s:RS)(hs:s.k≤W.length)(cs:List D)(s':RS)(h:(match it s with
   |none=>none
   |some (cs,s1)=>Li L W it m cs s1)=some (cs,s')):Km (run C1 cf N) 120 [] L W s (.agg cs) s':=by
 refine Rl hK func120 bdy rfl rfl rfl rfl (Bfc _ _ _) ?_;have hWl:=hW.1;split at h
 ·cases h
 rename_i c1 s1 h1;obtain⟨g1,g2⟩:=hit _ _ _ hs h1;obtain⟨gE,_⟩:=Ve hit g1 g2 h;refine Ad rfl (h180 _ _ _ hs h1) rfl ?_;simp only[Aa,g1.agg,Ae,g1.cl];refine⟨g1.ok,?_⟩;obtain⟨k,a,r,ln,nm,n,rows,hf,hrr⟩:=g1;refine wp_loop (fun m a ds=>a=0∧∃t k a r ln nm n rows gg j0 j1 j2 j3 j4 j5 j6,t.k≤W.length∧Gt 0 rows=false∧Li L W it m [.int .i64 k,.int .i64 a,.bool r,.str ln,.str nm,.int .i64 n,.sl rows .none] t=some (cs,s')∧ds= [.sl (Dt L W) .none,.int .i64 (t.k:Int),Nv t.bad,j0,j1,j2,j3,j4,j5,j6,.int .i64 k,.int .i64 a,.bool r,.str ln,.str nm,.int .i64 n,.sl rows gg]) m hm ⟨rfl,s1,k,a,r,ln,nm,n,rows,.none,_,_,_,_,_,_,_,g2,hrr,by rw[← hf];exact h,by rw[hf];rfl⟩ ?_
 rintro m a ds ⟨rfl,t,k,a,r,ln,nm,n,rows,gg,j0,j1,j2,j3,j4,j5,j6,ht,hrr,hgo,rfl⟩;have hstep:t.k<W.length→IntKind.i64.wrap ((t.k:Int)+1)=((t.k+1:Nat):Int):=fun _=>wrapN (by omega)
 have hm64:=h64 t ht;cases m with
 |zero=>simp[Li]at hgo
 |succ m=>
 unfold Li at hgo;simp only[Ca,hv,tails,List.tail_cons,List.headD_cons];have hend:some ([D.int .i64 k,.int .i64 a,.bool r,.str ln,.str nm,.int .i64 n,.sl rows .none],t)=some (cs,s')→Ck (.agg cs) [.agg [.int .i64 k,.int .i64 a,.bool r,.str ln,.str nm,.int .i64 n,.sl rows gg]]∧ [Nu L W t]= [Nu L W s']:=fun he=>by cases he;exact⟨Gy ⟨k,a,r,ln,nm,n,rows,rfl,hrr⟩ rfl,rfl⟩
 refine Ad rfl (h63 t) rfl ?_;simp only[Ac];cases hb:t.bad.isNone with
 |false=>rw[hb]at hgo;simp only[BF]at hgo;simp only[BF,Ae,Ab];exact⟨rfl,hend hgo⟩
 |true=>
  rw[hb]at hgo;simp only[if_true]at hgo ⊢;have hmore:∀(K:Int),Oc L W t=K→K≠0→t.k<W.length→∀T:D→List D→Tree,(∀x y,T x y= .bind (.agg 7 x) fun x18=> .chk (cl x18 7) (.bind (.slm (.int .i64 k)) fun x19=> .bind (.slm (.int .i64 a)) fun x20=> .bind (.slm (.bool r)) fun x21=> .bind (.slm (.str ln)) fun x22=> .bind (.slm (.str nm)) fun x23=> .bind (.slm (.int .i64 n)) fun x24=> .bind (.slm (.sl rows gg)) fun x25=>
    .bind (.slm (gc x18 0)) fun x26=> .bind (.slm (gc x18 1)) fun x27=> .bind (.slm (gc x18 2)) fun x28=> .bind (.slm (gc x18 3)) fun x29=> .bind (.slm (gc x18 4)) fun x30=> .bind (.slm (gc x18 5)) fun x31=> .bind (.slm (gc x18 6)) fun x32=> .bind (.cell (.int .i64 ((Cn L (W.drop t.k)).at_:Int))) fun x33=> .chk [x33] (
    .again 0 0 [(gd y 0),(gd y 1),(gd y 2),j0,j1,j2,j3,j4,j5,j6,.int .i64 K,x33,(.bool false),(.str []),(.str []),(.int .i64 0),(.sl [[x19,x20,x21,x22,x23,x24,x25],[x26,x27,x28,x29,x30,x31,x32]] .exact)])))→
    ∀J:List (Nat→List D→Prop),J[0]?=some (fun a' ds'=>∃n',n'<m+1∧a'=0∧∃t k a r ln nm n rows gg j0 j1 j2 j3 j4 j5 j6,t.k≤W.length∧Gt 0 rows=false∧Li L W it n' [.int .i64 k,.int .i64 a,.bool r,.str ln,.str nm,.int .i64 n,.sl rows .none] t=some (cs,s')∧ds'= [.sl (Dt L W) .none,.int .i64 (t.k:Int),Nv t.bad,j0,j1,j2,j3,j4,j5,j6,.int .i64 k,.int .i64 a,.bool r,.str ln,.str nm,.int .i64 n,.sl rows gg])→
    wp prog cf N (fun rs os=>Ck (.agg cs) rs∧os= [Nu L W s']) (.meth 180 [] [none] [] (Nu L W ⟨t.k+1,t.bad⟩) T) J:=fun K hK0 hKne hlt T hT J hJ=>by
   rw[hK0,if_neg hKne]at hgo;split at hgo
   ·cases hgo
   rename_i c2 s2 h2;obtain⟨q1,q2⟩:=hit _ _ _ (show(⟨t.k+1,t.bad⟩:RS).k≤W.length from hlt) h2;refine Ad rfl (h180 ⟨t.k+1,t.bad⟩ _ _ hlt h2) rfl ?_;rw[hT];have hc2:=q1.ref;obtain⟨k2,a2,r2,ln2,nm2,n2,rows2,rfl,hrr2⟩:=q1;simp only[Aa,M5,List.length_cons,List.length_nil,if_true,Ae,gc,cl,D.cells,List.getD_cons_zero,List.getD_cons_succ,Jj,Ax3,Ot,Auw,A9,Al,Az,hJ];refine⟨rfl,rfl,m,Nat.lt_succ_self m,trivial,s2,K,_,false,[],[],0,_,.exact,j0,j1,j2,j3,j4,j5,j6,q2,?_,hgo,rfl⟩;simp only[Gt,F6,D8,hrr,hrr2];rfl
  have hsg:Pg L W t [43]=true→Oc L W t=3:=fun h=>by unfold Oc;rw[if_pos h]
  refine Ad rfl (h117 t [43] ht) rfl ?_;simp only[Ac];cases h43:Pg L W t [43]with
  |true=>have hlt:=Em ht h43;simp only[if_true];refine Ad rfl hm64 rfl ?_;simp only[Ci,Aa,Wt,Nu,gd,List.getD_cons_zero,List.getD_cons_succ,Bt,hstep hlt,A9,Al,if_true,Ae];exact⟨rfl,hmore 3 (hsg h43) (by decide) hlt _ (fun _ _=>rfl) _ rfl⟩
  |false=>
   simp only[BF];refine Ad rfl (h117 t [94] ht) rfl ?_;simp only[Ac];cases h94:Pg L W t [94]with
   |true=>have hlt:=Em ht h94;simp only[if_true];refine Ad rfl hm64 rfl ?_;simp only[Ci,Aa,Wt,Nu,gd,List.getD_cons_zero,List.getD_cons_succ,Bt,hstep hlt,A9,Al,if_true,Ae];exact⟨rfl,hmore 4 (by unfold Oc;rw[h43,h94];rfl) (by decide) hlt _ (fun _ _=>rfl) _ rfl⟩
   |false=>
    simp only[BF];refine Ad rfl (h117 t [45] ht) rfl ?_;simp only[Ac];cases h45:Pg L W t [45]with
    |true=>have hlt:=Em ht h45;simp only[if_true];refine Ad rfl hm64 rfl ?_;simp only[Ci,Aa,Wt,Nu,gd,List.getD_cons_zero,List.getD_cons_succ,Bt,hstep hlt,A9,Al,if_true,Ae];exact⟨rfl,hmore 5 (by unfold Oc;rw[h43,h94,h45];rfl) (by decide) hlt _ (fun _ _=>rfl) _ rfl⟩
    |false=>
     have:Oc L W t=0:=by unfold Oc;rw[h43,h94,h45];rfl
     rw[if_pos this]at hgo;simp only[BF,Ae,Ab];exact⟨rfl,hend hgo⟩
end
section
variable{cf:Ah}{N:Nat}{L:Nat}{W:List Wd}{may:List UInt8→Bool}{gr:List UInt8→Int × Bool}
variable(hK:∀f,Ba (cf f))(hW:Ng W)
 (h63:∀s:RS,Km cf 63 [] L W s (.bool s.bad.isNone) s)(h64:∀s:RS,s.k≤W.length→Km cf 64 [] L W s (.agg (Ci (Cn L (W.drop s.k)))) s)
 (h117:∀(s:RS) (t:List UInt8),s.k≤W.length→Km cf 117 [.str t] L W s (.bool (Pg L W s t)) s)
 (h119:∀(s:RS) (t:List UInt8),s.k≤W.length→Km cf 119 [.str t] L W s (.tup []) (Bg L W s t))
 (h118:∀s:RS,s.k≤W.length→Km cf 118 [] L W s (.str (Dw L may W s).1) (Dw L may W s).2)
def Abf(L:Nat)(may:List UInt8→Bool)(W:List Wd)(q sm:RS→Option (List D × RS))(s:RS):Option (List D × RS):=
 if s.bad.isNone && Pg L W s Ib then
  let s1:RS:=⟨s.k+1,s.bad⟩;let nm:=Dw L may W s1;let s3:=Bg L W nm.2 [61]
  match L6 q [] s3 with
  |none=>none
  |some (r1,s4)=>match L6 q r1 (Bg L W s4 Vx)with
   |none=>none
   |some (r2,s6)=>some (qc 12 (atR L W s) false [] nm.1 0 (.sl r2 .none),s6)
 else if s.bad.isNone then sm s else some (qc 0 0 false [] [] 0 (.sl [] .none),s)
include hW h63 h64 h117 h118 h119 hK in
theorem Bcb{q sm:RS→Option (List D × RS)}(hq:Nj W q)(hsm:Nj W sm)(h62:V7 cf 62 L W q)(h120:V7 cf 120 L W sm)
  (s:RS)(hs:s.k≤W.length)(cs:List D)(s':RS)(h:Abf L may W q sm s=some (cs,s')):Km (run C1 cf N) 62 [] L W s (.agg cs) s':=by
 refine Rl hK func62 bdy rfl rfl rfl rfl (Bgw _ _ _) ?_;have hWl:=hW.1;unfold Abf at h;dsimp only at h;refine Ad rfl (h63 s) rfl ?_;simp only[Ac];have hsum:(if s.bad.isNone then sm s else some (qc 0 0 false [] [] 0 (.sl [] .none),s))=some (cs,s')→wp prog cf N (fun rs os=>Ck (.agg cs) rs∧os= [Nu L W s']) (.meth 63 [] [none] [] (Nu L W s) fun x7 x8=>
   .ite x7 (.meth 120 [] [none] [] (gl x8 3) fun x9 x10=> .bind (.agg 7 x9) fun x11=> .chk (cl x11 7) (.chk (cl x11 7) (.leaf [(.agg (cl x11 7))] [(gl x10 3)])))
    (.leaf [(.agg [(.int .i64 0),(.int .i64 0),(.bool false),(.str []),(.str []),(.int .i64 0),.nilsl])] [(gl x8 3)])) []:=fun h=>by
  refine Ad rfl (h63 s) rfl ?_;simp only[Ac];split at h
  ·rename_i hb;rw[if_pos hb];obtain⟨g1,g2⟩:=hsm _ _ _ hs h;refine Ad rfl (h120 _ _ _ hs h) rfl ?_;simp only[Aa,g1.agg,Ae,g1.cl,Ab];exact⟨g1.ok,g1.ok,Gy g1 g1.frz,rfl⟩
  ·rename_i hb;rw[if_neg hb];cases h;rw[Ab];exact⟨Gy (QJ.mk rfl) rfl,rfl⟩
 cases hb:s.bad.isNone with
 |false=>rw[hb]at h;simp only[Bool.false_and,BF]at h ⊢;exact hsum (by rw[hb];simpa using h)
 |true=>
  rw[hb]at h;simp only[Bool.true_and,if_true]at h ⊢;refine Ad rfl (h117 s Ib hs) rfl ?_;simp only[Ac];cases hl:Pg L W s Ib with
  |false=>rw[hl]at h;simp only[BF]at h ⊢;exact hsum (by rw[hb];simpa using h)
  |true=>
   rw[hl]at h;have hlt:=Em hs hl;simp only[if_true]at h ⊢;have hn1:(Dw L may W ⟨s.k+1,s.bad⟩).2.k≤W.length:=N9 (s:=⟨s.k+1,s.bad⟩) hlt;have h3:=Dc (L:=L) (t:= [61]) hn1;refine Ad rfl (h64 s hs) rfl ?_;simp only[Ci,Aa,Wt,Nu,gd,List.getD_cons_zero,List.getD_cons_succ,Bt,wrapN (show s.k<1000000 by omega),A9,Al,if_true,Ae]
   refine⟨rfl,rfl,Ad rfl (h118 ⟨s.k+1,s.bad⟩ hlt) rfl ?_⟩;simp only[Aa,A9,Al,if_true,Ae];refine⟨rfl,Ad rfl (h119 _ [61] hn1) rfl ?_⟩;refine Ad rfl (h63 _) rfl ?_;simp only[Ac];generalize hnm:Dw L may W ⟨s.k+1,s.bad⟩=nm at h h3 hn1 ⊢;generalize hs3:Bg L W nm.2 [61]=s3 at h h3 ⊢;cases hb3:s3.bad.isNone with
   |true=>
    simp only[L6,hb3,if_true,List.nil_append]at h ⊢;cases hq1:q s3 with
    |none=>rw[hq1]at h;cases h
    |some p=>
     obtain⟨c1,s4⟩:=p;rw[hq1]at h;dsimp only at h;obtain⟨g1,g2⟩:=hq _ _ _ h3 hq1;have h5:=Dc (L:=L) (t:=Vx) g2;refine Ad rfl (h62 _ _ _ h3 hq1) rfl ?_;simp only[Aa,g1.slim,g1.agg,g1.cl,g1.app0];refine Ad rfl (h119 s4 Vx g2) rfl ?_;refine Ad rfl (h63 _) rfl ?_;simp only[Ac];cases hb5:(Bg L W s4 Vx).bad.isNone with
     |true=>
      simp only[hb5,if_true]at h ⊢;cases hq2:q (Bg L W s4 Vx)with
      |none=>rw[hq2]at h;cases h
      |some p=>
       obtain⟨c2,s6⟩:=p;rw[hq2]at h;cases h;obtain⟨e1,e2⟩:=hq _ _ _ h5 hq2;refine Ad rfl (h62 _ _ _ h5 hq2) rfl ?_;have ha:(Av.app1 27 (.sl [c1] .none) (.sl [c2] .exact)).sem prog=some (.sl ([c1]++ [c2]) .none):=e1.app1 (by simpa using g1) (by simp) (by simp)
       simp only[Aa,e1.slim,e1.agg,e1.cl,Bc,ha,Ae,Ab];refine⟨by simp,rfl,Gy (QJ.mk (Gx ?_)) rfl,rfl⟩
       simp[g1,e1]
     |false=>simp only[hb5,BF]at h ⊢;cases h;simp only[Ae,Ab];exact⟨rfl,Gy (QJ.mk (Gx (by simpa using g1))) rfl,rfl⟩
   |false=>
    simp only[L6,hb3,BF]at h ⊢;have h5:=Dc (L:=L) (t:=Vx) h3;refine Ad rfl (h119 s3 Vx h3) rfl ?_;refine Ad rfl (h63 _) rfl ?_;simp only[Ac];cases hb5:(Bg L W s3 Vx).bad.isNone with
    |true=>
     simp only[hb5,if_true,List.nil_append]at h ⊢;cases hq2:q (Bg L W s3 Vx)with
     |none=>rw[hq2]at h;cases h
     |some p=>obtain⟨c2,s6⟩:=p;rw[hq2]at h;cases h;obtain⟨e1,e2⟩:=hq _ _ _ h5 hq2;refine Ad rfl (h62 _ _ _ h5 hq2) rfl ?_;simp only[Aa,e1.slim,e1.agg,e1.cl,e1.app0,Ae,Ab];exact⟨rfl,Gy (QJ.mk (Gx (by simpa using e1))) rfl,rfl⟩
    |false=>simp only[hb5,BF]at h ⊢;cases h;simp only[Ae,Ab];exact⟨rfl,Gy (QJ.mk rfl) rfl,rfl⟩
end
end Go.Vam
