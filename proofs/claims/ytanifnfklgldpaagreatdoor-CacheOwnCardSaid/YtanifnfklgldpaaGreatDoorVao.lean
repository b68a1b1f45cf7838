/-
  Rows with stores.
-/
import Derived.Test.YtanifnfklgldpaaGreatDoorVal
set_option linter.unusedSimpArgs false
set_option linter.unusedVariables false
set_option maxRecDepth 1000000
namespace Go.Vam
open Go.Proofs
noncomputable def Ik:D:= .str [99]
noncomputable def z12:D:= .str [121]
noncomputable def z38:D:= .sl [[z12]] .none
noncomputable def Sv:D:= .str [122]
noncomputable def z9:D:= .str [97]
noncomputable def z56:D:= .sl [[z9]] .none
noncomputable def z48:D:= .sl [] .none
noncomputable def z23:D:= .sl [[Sv,.int .i64 (5),z38,z48,.int .i64 (0)]] .none
noncomputable def z21:D:= .str [115]
noncomputable def z54:D:= .sl [[z21]] .none
noncomputable def K4:D:= .str [120]
noncomputable def z40:D:= .sl [[K4]] .none
noncomputable def z24:D:= .sl [[K4,.int .i64 (5),z54,z48,.int .i64 (0)]] .none
noncomputable def Gq:D:= .str [98]
noncomputable def z25:D:= .sl [[z12,.int .i64 (5),z40,z48,.int .i64 (0)]] .none
noncomputable def z1:Obj:= .map [(Ik,.agg [Ik,z38,.sl [[Sv]] .none,z56,z23]),(z9,.agg [z9,z54,z40,z48,z24]),(Gq,.agg [Gq,z40,z38,z48,z25])]
noncomputable def z2:Obj:= .cells [Ik,z38,.sl [[Sv]] .none,z56,z23]
noncomputable def z3:D:= .bool true
noncomputable def z4:Obj:= .cells [z9,z54,z40,z48,z24]
noncomputable def z5:Obj:= .cells [Gq,z40,z38,z48,z25]
noncomputable def z6:D:= .bool false
noncomputable def z7:D:= .sl [[Ik,z38,.sl [[Sv]] .none,z56,z23],[z9,z54,z40,z48,z24],[Gq,z40,z38,z48,z25]] .none
noncomputable def z35:D:= .agg [z3,Ik]
noncomputable def z37:D:= .agg [z6,z12]
noncomputable def z39:D:= .agg [z6,Sv]
noncomputable def z32:D:= .agg [z3,z9]
noncomputable def z51:D:= .agg [z6,z21]
noncomputable def z31:D:= .agg [z6,K4]
noncomputable def z36:D:= .agg [z3,Gq]
noncomputable def z8:Obj:= .map [(z35,z3),(z37,z3),(z39,z3),(z32,z3),(z51,z3),(z31,z3),(z36,z3)]
noncomputable def z14:Obj:= .map [(Ik,.sl [[z9],[Gq]] .none),(z9,z48),(Gq,z56)]
noncomputable def z16:Obj:= .map [(z37,z3)]
noncomputable def z17:Obj:= .map [(z35,z3)]
noncomputable def z18:Obj:= .map [(z31,z3)]
noncomputable def z19:Obj:= .map [(z36,z3)]
noncomputable def z20:Obj:= .map [(z32,z3)]
noncomputable def z22:Obj:= .map [(Sv,Ik),(K4,z9),(z12,Gq)]
noncomputable def z26:Obj:= .cells [z3,z9]
noncomputable def z27:Obj:= .cells [z3,Ik]
noncomputable def z28:Obj:= .cells [z6,z12]
noncomputable def z29:Obj:= .cells [z6,K4]
noncomputable def z30:Obj:= .cells [z3,Gq]
noncomputable def z33:Obj:= .map [(z39,z3)]
noncomputable def z34:Obj:= .map [(z51,z3)]
noncomputable def z41:Obj:= .map [(z37,.ptr 158 0),(z35,.ptr 166 0),(z51,.ptr 175 0),(z32,.ptr 183 0),(z31,.ptr 192 0),(z36,.ptr 200 0)]
noncomputable def z42:Obj:= .map [(z37,.ptr 90 0),(z35,.ptr 98 0),(z51,.ptr 107 0),(z32,.ptr 115 0),(z31,.ptr 124 0),(z36,.ptr 132 0)]
noncomputable def z43:Obj:= .map [(z37,.ptr 14 0),(z35,.ptr 22 0),(z51,.ptr 31 0),(z32,.ptr 39 0),(z31,.ptr 48 0),(z36,.ptr 56 0)]
noncomputable def z44:Obj:= .cells [z6,Sv]
noncomputable def z45:Obj:= .cells [z6,z21]
noncomputable def z46:Obj:= .map [(z35,.ptr 155 0),(z39,.ptr 163 0),(z32,.ptr 172 0),(z31,.ptr 180 0),(z36,.ptr 189 0),(z37,.ptr 197 0)]
noncomputable def z47:Obj:= .map [(z35,.ptr 87 0),(z39,.ptr 95 0),(z32,.ptr 104 0),(z31,.ptr 112 0),(z36,.ptr 121 0),(z37,.ptr 129 0)]
noncomputable def z49:Obj:= .map [(z35,.ptr 11 0),(z39,.ptr 19 0),(z32,.ptr 28 0),(z31,.ptr 36 0),(z36,.ptr 45 0),(z37,.ptr 53 0)]
noncomputable def z50:Obj:= .fcells [z9,Gq]
noncomputable def z52:Obj:= .fcells [z9]
noncomputable def z53:Obj:= .cells [z9]
noncomputable def z55:Obj:= .cells [Gq]
noncomputable def Aed:St:= [z1,z22,.cells [.map 3],z8,z49,z43,.cells [.map 0,.map 1,.ptr 2 0,.map 4,.map 5],z2,z27,z28,.cells [.map 4,z3,Ik,z6,z12],.cells [.map 12],z16,.cells [.map 5,z6,z12,z3,Ik],.cells [.map 15],z17,z44,z27,.cells [.map 4,z6,Sv,z3,Ik],.cells [.map 20],z17,.cells [.map 5,z3,Ik,z6,Sv],.cells [.map 23],z33,z4,z26,z45,.cells [.map 4,z3,z9,z6,z21],.cells [.map 29],z34,.cells [.map 5,z6,z21,z3,z9],.cells [.map 32],z20,z29,z26,.cells [.map 4,z6,K4,z3,z9],.cells [.map 37],z20,.cells [.map 5,z3,z9,z6,K4],.cells [.map 40],z18,z5,z30,z29,.cells [.map 4,z3,Gq,z6,K4],.cells [.map 46],z18,.cells [.map 5,z6,K4,z3,Gq],.cells [.map 49],z19,z28,z30,.cells [.map 4,z6,z12,z3,Gq],.cells [.map 54],z19,.cells [.map 5,z3,Gq,z6,z12],.cells [.map 57],z16,.cells [.map 59],.map [(z32,z3),(.agg [z6,Gq],z3)],z26,.cells [z6,Gq],.cells [.map 63],.map [(.agg [z6,z9],z3)],.cells [z6,z9],.cells [.map 59],.fcells [z6,Gq,z3,z9],.cells [.map 68],.map [(.agg [z6,Gq],z3),(z32,z3),(.agg [z6,z9],z3)],.cells [z6,Gq],z26,.cells [.map 63],.fcells [z6,z9]]
noncomputable def Px:List D:= [z7]
noncomputable def Ben:St:=Aed++ [z1,z22,.cells [.map 76],z8,.map [(z35,.ptr 84 0),(z39,.ptr 92 0),(z32,.ptr 101 0),(z31,.ptr 109 0),(z36,.ptr 118 0),(z37,.ptr 126 0)],.map [(z37,.ptr 87 0),(z35,.ptr 95 0),(z51,.ptr 104 0),(z32,.ptr 112 0),(z31,.ptr 121 0),(z36,.ptr 129 0)],.cells [.map 73,.map 74,.ptr 75 0,.map 77,.map 78],z2,z27,z28,.cells [.map 77,z3,Ik,z6,z12],.cells [.map 85],z16,.cells [.map 78,z6,z12,z3,Ik],.cells [.map 88],z17,z44,z27,.cells [.map 77,z6,Sv,z3,Ik],.cells [.map 93],z17,.cells [.map 78,z3,Ik,z6,Sv],.cells [.map 96],z33,z4,z26,z45,.cells [.map 77,z3,z9,z6,z21],.cells [.map 102],z34,.cells [.map 78,z6,z21,z3,z9],.cells [.map 105],z20,z29,z26,.cells [.map 77,z6,K4,z3,z9],.cells [.map 110],z20,.cells [.map 78,z3,z9,z6,K4],.cells [.map 113],z18,z5,z30,z29,.cells [.map 77,z3,Gq,z6,K4],.cells [.map 119],z18,.cells [.map 78,z6,K4,z3,Gq],.cells [.map 122],z19,z28,z30,.cells [.map 77,z6,z12,z3,Gq],.cells [.map 127],z19,.cells [.map 78,z3,Gq,z6,z12],.cells [.map 130],z16,z14,z2,.dead,z55,z50,z4,z5,z53,z52]
noncomputable def A57:F3:=⟨Px,Aed,.map 131,Ben,[]⟩
noncomputable def L8:St:=Aed++ [.cells [.map 59],.cells [z6,Gq,z3,z9]]
noncomputable def A51:St:=L8++ [z1,z22,.cells [.map 78],z8,.map [(z35,.ptr 86 0),(z39,.ptr 94 0),(z32,.ptr 103 0),(z31,.ptr 111 0),(z36,.ptr 120 0),(z37,.ptr 128 0)],.map [(z37,.ptr 89 0),(z35,.ptr 97 0),(z51,.ptr 106 0),(z32,.ptr 114 0),(z31,.ptr 123 0),(z36,.ptr 131 0)],.cells [.map 75,.map 76,.ptr 77 0,.map 79,.map 80],z2,z27,z28,.cells [.map 79,z3,Ik,z6,z12],.cells [.map 87],z16,.cells [.map 80,z6,z12,z3,Ik],.cells [.map 90],z17,z44,z27,.cells [.map 79,z6,Sv,z3,Ik],.cells [.map 95],z17,.cells [.map 80,z3,Ik,z6,Sv],.cells [.map 98],z33,z4,z26,z45,.cells [.map 79,z3,z9,z6,z21],.cells [.map 104],z34,.cells [.map 80,z6,z21,z3,z9],.cells [.map 107],z20,z29,z26,.cells [.map 79,z6,K4,z3,z9],.cells [.map 112],z20,.cells [.map 80,z3,z9,z6,K4],.cells [.map 115],z18,z5,z30,z29,.cells [.map 79,z3,Gq,z6,K4],.cells [.map 121],z18,.cells [.map 80,z6,K4,z3,Gq],.cells [.map 124],z19,z28,z30,.cells [.map 79,z6,z12,z3,Gq],.cells [.map 129],z19,.cells [.map 80,z3,Gq,z6,z12],.cells [.map 132],z16,z14,z2,.dead,z55,z50,z4,z5,z53,z52]
noncomputable def A6h:F3:=⟨Px,L8,.map 133,A51,[]⟩
noncomputable def A6f:St:=L8++ [.cells [Ik]]
noncomputable def Au5:St:=A6f++ [z1,z22,.cells [.map 79],z8,z47,z42,.cells [.map 76,.map 77,.ptr 78 0,.map 80,.map 81],z2,z27,z28,.cells [.map 80,z3,Ik,z6,z12],.cells [.map 88],z16,.cells [.map 81,z6,z12,z3,Ik],.cells [.map 91],z17,z44,z27,.cells [.map 80,z6,Sv,z3,Ik],.cells [.map 96],z17,.cells [.map 81,z3,Ik,z6,Sv],.cells [.map 99],z33,z4,z26,z45,.cells [.map 80,z3,z9,z6,z21],.cells [.map 105],z34,.cells [.map 81,z6,z21,z3,z9],.cells [.map 108],z20,z29,z26,.cells [.map 80,z6,K4,z3,z9],.cells [.map 113],z20,.cells [.map 81,z3,z9,z6,K4],.cells [.map 116],z18,z5,z30,z29,.cells [.map 80,z3,Gq,z6,K4],.cells [.map 122],z18,.cells [.map 81,z6,K4,z3,Gq],.cells [.map 125],z19,z28,z30,.cells [.map 80,z6,z12,z3,Gq],.cells [.map 130],z19,.cells [.map 81,z3,Gq,z6,z12],.cells [.map 133],z16,z14,z2,.dead,z55,z50,z4,z5,z53,z52]
noncomputable def A6m:F3:=⟨Px,A6f,.map 134,Au5,[]⟩
noncomputable def A6r:St:=L8++ [.cells [z7]]
noncomputable def Axr:St:=A6r++ [z1,z22,.cells [.map 79],z8,z47,z42,.cells [.map 76,.map 77,.ptr 78 0,.map 80,.map 81],z2,z27,z28,.cells [.map 80,z3,Ik,z6,z12],.cells [.map 88],z16,.cells [.map 81,z6,z12,z3,Ik],.cells [.map 91],z17,z44,z27,.cells [.map 80,z6,Sv,z3,Ik],.cells [.map 96],z17,.cells [.map 81,z3,Ik,z6,Sv],.cells [.map 99],z33,z4,z26,z45,.cells [.map 80,z3,z9,z6,z21],.cells [.map 105],z34,.cells [.map 81,z6,z21,z3,z9],.cells [.map 108],z20,z29,z26,.cells [.map 80,z6,K4,z3,z9],.cells [.map 113],z20,.cells [.map 81,z3,z9,z6,K4],.cells [.map 116],z18,z5,z30,z29,.cells [.map 80,z3,Gq,z6,K4],.cells [.map 122],z18,.cells [.map 81,z6,K4,z3,Gq],.cells [.map 125],z19,z28,z30,.cells [.map 80,z6,z12,z3,Gq],.cells [.map 130],z19,.cells [.map 81,z3,Gq,z6,z12],.cells [.map 133],z16,z14,z2,.dead,z55,z50,z4,z5,z53,z52]
noncomputable def A6g:F3:=⟨Px,A6r,.map 134,Axr,[]⟩
noncomputable def A5y:St:=A51++ [.map []]
noncomputable def Bfv:St:=A5y++ [z1,z22,.cells [.map 146],z8,.map [(z35,.ptr 154 0),(z39,.ptr 162 0),(z32,.ptr 171 0),(z31,.ptr 179 0),(z36,.ptr 188 0),(z37,.ptr 196 0)],.map [(z37,.ptr 157 0),(z35,.ptr 165 0),(z51,.ptr 174 0),(z32,.ptr 182 0),(z31,.ptr 191 0),(z36,.ptr 199 0)],.cells [.map 143,.map 144,.ptr 145 0,.map 147,.map 148],z2,z27,z28,.cells [.map 147,z3,Ik,z6,z12],.cells [.map 155],z16,.cells [.map 148,z6,z12,z3,Ik],.cells [.map 158],z17,z44,z27,.cells [.map 147,z6,Sv,z3,Ik],.cells [.map 163],z17,.cells [.map 148,z3,Ik,z6,Sv],.cells [.map 166],z33,z4,z26,z45,.cells [.map 147,z3,z9,z6,z21],.cells [.map 172],z34,.cells [.map 148,z6,z21,z3,z9],.cells [.map 175],z20,z29,z26,.cells [.map 147,z6,K4,z3,z9],.cells [.map 180],z20,.cells [.map 148,z3,z9,z6,K4],.cells [.map 183],z18,z5,z30,z29,.cells [.map 147,z3,Gq,z6,K4],.cells [.map 189],z18,.cells [.map 148,z6,K4,z3,Gq],.cells [.map 192],z19,z28,z30,.cells [.map 147,z6,z12,z3,Gq],.cells [.map 197],z19,.cells [.map 148,z3,Gq,z6,z12],.cells [.map 200],z16,z14,z2,.dead,z55,z50,z4,z5,z53,z52]
noncomputable def A6u:F3:=⟨Px,A5y,.map 201,Bfv,[]⟩
noncomputable def Awd:St:=Au5++ [.map []]
noncomputable def Bb7:St:=Awd++ [z1,z22,.cells [.map 147],z8,z46,z41,.cells [.map 144,.map 145,.ptr 146 0,.map 148,.map 149],z2,z27,z28,.cells [.map 148,z3,Ik,z6,z12],.cells [.map 156],z16,.cells [.map 149,z6,z12,z3,Ik],.cells [.map 159],z17,z44,z27,.cells [.map 148,z6,Sv,z3,Ik],.cells [.map 164],z17,.cells [.map 149,z3,Ik,z6,Sv],.cells [.map 167],z33,z4,z26,z45,.cells [.map 148,z3,z9,z6,z21],.cells [.map 173],z34,.cells [.map 149,z6,z21,z3,z9],.cells [.map 176],z20,z29,z26,.cells [.map 148,z6,K4,z3,z9],.cells [.map 181],z20,.cells [.map 149,z3,z9,z6,K4],.cells [.map 184],z18,z5,z30,z29,.cells [.map 148,z3,Gq,z6,K4],.cells [.map 190],z18,.cells [.map 149,z6,K4,z3,Gq],.cells [.map 193],z19,z28,z30,.cells [.map 148,z6,z12,z3,Gq],.cells [.map 198],z19,.cells [.map 149,z3,Gq,z6,z12],.cells [.map 201],z16,z14,z2,.dead,z55,z50,z4,z5,z53,z52]
noncomputable def A50:F3:=⟨Px,Awd,.map 202,Bb7,[]⟩
noncomputable def Avs:St:=Axr++ [.map []]
noncomputable def Bb0:St:=Avs++ [z1,z22,.cells [.map 147],z8,z46,z41,.cells [.map 144,.map 145,.ptr 146 0,.map 148,.map 149],z2,z27,z28,.cells [.map 148,z3,Ik,z6,z12],.cells [.map 156],z16,.cells [.map 149,z6,z12,z3,Ik],.cells [.map 159],z17,z44,z27,.cells [.map 148,z6,Sv,z3,Ik],.cells [.map 164],z17,.cells [.map 149,z3,Ik,z6,Sv],.cells [.map 167],z33,z4,z26,z45,.cells [.map 148,z3,z9,z6,z21],.cells [.map 173],z34,.cells [.map 149,z6,z21,z3,z9],.cells [.map 176],z20,z29,z26,.cells [.map 148,z6,K4,z3,z9],.cells [.map 181],z20,.cells [.map 149,z3,z9,z6,K4],.cells [.map 184],z18,z5,z30,z29,.cells [.map 148,z3,Gq,z6,K4],.cells [.map 190],z18,.cells [.map 149,z6,K4,z3,Gq],.cells [.map 193],z19,z28,z30,.cells [.map 148,z6,z12,z3,Gq],.cells [.map 198],z19,.cells [.map 149,z3,Gq,z6,z12],.cells [.map 201],z16,z14,z2,.dead,z55,z50,z4,z5,z53,z52]
noncomputable def A6s:F3:=⟨Px,Avs,.map 202,Bb0,[]⟩
noncomputable def Avx:St:=Au5++ [.map [(z9,.map 144),(Gq,.map 145),(Ik,.map 146)],.map [],.map [(z9,z3)],.map [(z9,z3),(Gq,z3)],.cells [z7],.cells [.map 143],z2,z53]
noncomputable def A9c:St:=Avx++ [z1,z22,.cells [.map 154],z8,.map [(z35,.ptr 162 0),(z39,.ptr 170 0),(z32,.ptr 179 0),(z31,.ptr 187 0),(z36,.ptr 196 0),(z37,.ptr 204 0)],.map [(z37,.ptr 165 0),(z35,.ptr 173 0),(z51,.ptr 182 0),(z32,.ptr 190 0),(z31,.ptr 199 0),(z36,.ptr 207 0)],.cells [.map 151,.map 152,.ptr 153 0,.map 155,.map 156],z2,z27,z28,.cells [.map 155,z3,Ik,z6,z12],.cells [.map 163],z16,.cells [.map 156,z6,z12,z3,Ik],.cells [.map 166],z17,z44,z27,.cells [.map 155,z6,Sv,z3,Ik],.cells [.map 171],z17,.cells [.map 156,z3,Ik,z6,Sv],.cells [.map 174],z33,z4,z26,z45,.cells [.map 155,z3,z9,z6,z21],.cells [.map 180],z34,.cells [.map 156,z6,z21,z3,z9],.cells [.map 183],z20,z29,z26,.cells [.map 155,z6,K4,z3,z9],.cells [.map 188],z20,.cells [.map 156,z3,z9,z6,K4],.cells [.map 191],z18,z5,z30,z29,.cells [.map 155,z3,Gq,z6,K4],.cells [.map 197],z18,.cells [.map 156,z6,K4,z3,Gq],.cells [.map 200],z19,z28,z30,.cells [.map 155,z6,z12,z3,Gq],.cells [.map 205],z19,.cells [.map 156,z3,Gq,z6,z12],.cells [.map 208],z16,z14,z2,.dead,z55,z50,z4,z5,z53,z52]
noncomputable def A58:F3:=⟨Px,Avx,.map 209,A9c,[]⟩
noncomputable def As9:St:=Axr++ [.map [(z9,.map 144),(Gq,.map 145),(Ik,.map 146)],.map [],.map [(z9,z3)],.map [(z9,z3),(Gq,z3)],.cells [.map 143],.dead,.cells [Ik,z38,.sl [[Sv]] .none,z56,z23,z9,z54,z40,z48,z24,Gq,z40,z38,z48,z25],z2,z52,.cells [z7],.cells [.map 143],z2,z53]
noncomputable def Bcq:St:=As9++ [z1,z22,.cells [.map 159],z8,.map [(z35,.ptr 167 0),(z39,.ptr 175 0),(z32,.ptr 184 0),(z31,.ptr 192 0),(z36,.ptr 201 0),(z37,.ptr 209 0)],.map [(z37,.ptr 170 0),(z35,.ptr 178 0),(z51,.ptr 187 0),(z32,.ptr 195 0),(z31,.ptr 204 0),(z36,.ptr 212 0)],.cells [.map 156,.map 157,.ptr 158 0,.map 160,.map 161],z2,z27,z28,.cells [.map 160,z3,Ik,z6,z12],.cells [.map 168],z16,.cells [.map 161,z6,z12,z3,Ik],.cells [.map 171],z17,z44,z27,.cells [.map 160,z6,Sv,z3,Ik],.cells [.map 176],z17,.cells [.map 161,z3,Ik,z6,Sv],.cells [.map 179],z33,z4,z26,z45,.cells [.map 160,z3,z9,z6,z21],.cells [.map 185],z34,.cells [.map 161,z6,z21,z3,z9],.cells [.map 188],z20,z29,z26,.cells [.map 160,z6,K4,z3,z9],.cells [.map 193],z20,.cells [.map 161,z3,z9,z6,K4],.cells [.map 196],z18,z5,z30,z29,.cells [.map 160,z3,Gq,z6,K4],.cells [.map 202],z18,.cells [.map 161,z6,K4,z3,Gq],.cells [.map 205],z19,z28,z30,.cells [.map 160,z6,z12,z3,Gq],.cells [.map 210],z19,.cells [.map 161,z3,Gq,z6,z12],.cells [.map 213],z16,z14,z2,.dead,z55,z50,z4,z5,z53,z52]
noncomputable def A53:F3:=⟨Px,As9,.map 214,Bcq,[]⟩
noncomputable def Kn:List (Nat × List F3):= [(48,[A57,A6h,A6m,A6g,A6u,A50,A6s,A58,A53])]
end Go.Vam
