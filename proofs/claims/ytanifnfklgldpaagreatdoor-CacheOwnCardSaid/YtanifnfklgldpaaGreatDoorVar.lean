/-
  Rows with stores hold (3).
-/
import Derived.Test.YtanifnfklgldpaaGreatDoorVao
set_option linter.unusedSimpArgs false
set_option linter.unusedVariables false
set_option maxRecDepth 1000000
namespace Go.Vam
open Go.Proofs
noncomputable def Aw1:List D:= [.ptr 6 0,.sl [[z6,Sv]] .none,.sl [[z6,K4]] .none]
noncomputable def Aos:St:= [z1,z22,.cells [.map 3],z8,z49,z43,.cells [.map 0,.map 1,.ptr 2 0,.map 4,.map 5],z2,z27,z28,.cells [.map 4,z3,Ik,z6,z12],.cells [.map 12],z16,.cells [.map 5,z6,z12,z3,Ik],.cells [.map 15],z17,z44,z27,.cells [.map 4,z6,Sv,z3,Ik],.cells [.map 20],z17,.cells [.map 5,z3,Ik,z6,Sv],.cells [.map 23],z33,z4,z26,z45,.cells [.map 4,z3,z9,z6,z21],.cells [.map 29],z34,.cells [.map 5,z6,z21,z3,z9],.cells [.map 32],z20,z29,z26,.cells [.map 4,z6,K4,z3,z9],.cells [.map 37],z20,.cells [.map 5,z3,z9,z6,K4],.cells [.map 40],z18,z5,z30,z29,.cells [.map 4,z3,Gq,z6,K4],.cells [.map 46],z18,.cells [.map 5,z6,K4,z3,Gq],.cells [.map 49],z19,z28,z30,.cells [.map 4,z6,z12,z3,Gq],.cells [.map 54],z19,.cells [.map 5,z3,Gq,z6,z12],.cells [.map 57],z16,.cells [.map 59],.map [(z32,z3),(.agg [z6,Gq],z3)],z26,.cells [z6,Gq]]
noncomputable def Axb:F3:=⟨Aw1,Aos,.sl [[z6,Sv],[z3,Ik],[z6,z12],[z3,Gq],[z6,K4]] .none,Aos,[]⟩
noncomputable def Awi:F3:=⟨Px,Aed,.sl [[z9],[Gq],[Ik]] .none,Aed,[]⟩
noncomputable def Aww:F3:=⟨Px,Aed,.sl [[z56],[.sl [[Gq]] .none],[.sl [[Ik]] .none]] .none,Aed,[]⟩
noncomputable def A7p:List D:= [.ptr 6 0,z38]
noncomputable def As3:F3:=⟨A7p,L8,.sl [[z9],[Gq]] .none,L8,[]⟩
noncomputable def Auh:F3:=⟨Px,L8,.sl [[z9],[Gq],[Ik]] .none,L8,[]⟩
noncomputable def Avo:F3:=⟨Px,L8,.sl [[Ik,z38,.sl [[Sv]] .none,z48,z23],[z9,z54,z40,z48,z24],[Gq,z40,z38,z48,z25]] .none,L8,[]⟩
noncomputable def A7e:List D:= [z7,Ik]
noncomputable def At8:F3:=⟨A7e,L8,.sl [[z9],[Gq]] .none,L8,[]⟩
noncomputable def Awg:F3:=⟨Aw1,L8,.sl [[z6,K4],[z6,z12],[z6,Sv],[z3,Gq],[z3,Ik]] .none,L8,[]⟩
noncomputable def Ba0:List D:= [.ptr 6 0,z39,z31,.int .i64 (9)]
noncomputable def Aut:F3:=⟨Ba0,L8,.sl [[.sl [[z6,Sv],[z3,Ik],[z6,z12],[z3,Gq],[z6,K4]] .none]] .none,L8,[]⟩
noncomputable def Ajc:List (Nat × List F3):= [(236,[Axb]),(237,[Awg]),(248,[Awi,Auh]),(249,[Aww]),(49,[As3]),(218,[Avo]),(254,[At8]),(256,[Aut])]
theorem A5o:Pd Kn Rf 60 236 Axb=true:=by kernel_rfl
theorem A20:Pd Kn Rf 60 237 Awg=true:=by kernel_rfl
theorem A0p:Pd Kn Rf 60 248 Awi=true:=by kernel_rfl
theorem A42:Pd Kn Rf 60 248 Auh=true:=by kernel_rfl
theorem A17:Pd Kn Rf 60 249 Aww=true:=by kernel_rfl
theorem Azk:Pd Kn Rf 60 49 As3=true:=by kernel_rfl
theorem A4d:Pd Kn Rf 60 218 Avo=true:=by kernel_rfl
theorem A1t:Pd Kn Rf 60 254 At8=true:=by kernel_rfl
theorem A4c:Pd Kn Rf 60 256 Aut=true:=by kernel_rfl
end Go.Vam
