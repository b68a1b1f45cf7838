/-
  No function of the seat starts a goroutine: in pieces.
-/
import Derived.Test.YtanifnfklgldpaaGreatDoorRows
import Derived.SevenTiedAt
import Derived.KernelRfl
set_option linter.unusedSimpArgs false
set_option linter.unusedVariables false
set_option maxRecDepth 1000000
namespace Go.Proofs.YtanifnfklgldpaaGreatDoor
open Go Go.Proofs.Tryz
theorem Caa:((List.range' 0 80).all fun i=>!(prog.funcs[i]?).any Func.goes)=true:=by kernel_rfl
theorem B83:((List.range' 80 80).all fun i=>!(prog.funcs[i]?).any Func.goes)=true:=by kernel_rfl
theorem Cb6:((List.range' 160 80).all fun i=>!(prog.funcs[i]?).any Func.goes)=true:=by kernel_rfl
theorem Cb9:((List.range' 240 80).all fun i=>!(prog.funcs[i]?).any Func.goes)=true:=by kernel_rfl
theorem Ca8:((List.range' 320 80).all fun i=>!(prog.funcs[i]?).any Func.goes)=true:=by kernel_rfl
theorem Cbx:((List.range' 400 80).all fun i=>!(prog.funcs[i]?).any Func.goes)=true:=by kernel_rfl
theorem B5h:(Nat.ble prog.funcs.size 480)=true:=by kernel_rfl
theorem Qy{k n g:Nat}(h:((List.range' k n).all fun i=>!(prog.funcs[i]?).any Func.goes)=true)(h1:k≤g)(h2:g<k+n):(prog.funcs[g]?).any Func.goes=false:=by
 have:=List.all_eq_true.1 h g (List.mem_range'_1.2 ⟨h1,h2⟩)
 rwa [Bool.not_eq_true']at this
theorem Cec(g:Nat):(prog.funcs[g]?).any Func.goes=false:=by
 by_cases h:g<480
 ·by_cases h1:g<80
  ·exact Qy Caa (by omega) (by omega)
  by_cases h2:g<160
  ·exact Qy B83 (by omega) (by omega)
  by_cases h3:g<240
  ·exact Qy Cb6 (by omega) (by omega)
  by_cases h4:g<320
  ·exact Qy Cb9 (by omega) (by omega)
  by_cases h5:g<400
  ·exact Qy Ca8 (by omega) (by omega)
  ·exact Qy Cbx (by omega) (by omega)
 ·have hs:prog.funcs.size≤480:=Nat.le_of_ble_eq_true B5h;rw[Array.getElem?_eq_none (by omega)]
  rfl
theorem B5k{P:Program}(hP:∀g:Nat,(P.funcs[g]?).any Func.goes=false)(f:FuncId):P.goes f=false:=by
 unfold Program.goes;rw[Bool.or_eq_false_iff];refine⟨?_,?_⟩
 ·simp[hP]
 ·have:P.funcs.any Func.goes=false:=by
   rw[Bool.eq_false_iff];intro h;obtain⟨i,hi,h1⟩:=Array.any_eq_true.1 h;have:=hP i;rw[Array.getElem?_eq_getElem hi]at this;simp only[Option.any_some]at this;rw[this]at h1;cases h1
  rw[this,Bool.and_false]
theorem B8p{P:Program}(hP:∀g:Nat,(P.funcs[g]?).any Func.goes=false)(c:OpenClaim):false=c.goesBy P:=by
 have h:=B5k hP;unfold OpenClaim.goesBy Program.goesAt Program.goesFrom;have h1:(P.funcNamed c.func).any P.goes=false:=by
  cases P.funcNamed c.func with
  |none=>rfl
  |some f=>exact h f
 have h2:P.inits.toList.any P.goes=false:=by rw[List.any_eq_false];intro x _;rw[h x];exact Bool.false_ne_true
 rw[h1,h2,Bool.false_or];split<;>rfl
theorem B4h(c:OpenClaim):false=c.goesBy prog:=B8p Cec c
end Go.Proofs.YtanifnfklgldpaaGreatDoor
