/- P. -/
import Derived.Test.YtiobopjhbneieaaGreatDoorVcf
import Derived.Test.YtiobopjhbneieaaGreatDoorVau
import Derived.Shelf.Strconv.AtoiAll
import Derived.Shelf.GgClosure.StringsIndexFuncTop
import Derived.Shelf.Strings.LastIndex
import Derived.Laws.DeepStrings4
set_option linter.unusedSimpArgs false
set_option linter.unusedVariables false
set_option linter.unusedSectionVars false
noncomputable section
set_option maxRecDepth 1000000
namespace Go.Proofs
open Go.Proofs.Tryz Go.Shelf
def Tryz.laysC172_ren:Go.Shelf.Ren:=⟨fun|172=>266|244=>291|245=>292|247=>324|279=>325|280=>326|281=>327|282=>328|287=>342|316=>343|171=>101|205=>344|321=>351|322=>352|243=>158|246=>198|283=>229|284=>230|285=>231|286=>232|129=>125|317=>262|318=>263|319=>264|320=>265|337=>289|338=>290|n=>n,fun|9=>9|3=>3|75=>281|76=>282|4=>4|5=>5|167=>324|37=>144|0=>0|85=>325|2=>2|168=>327|53=>167|175=>336|46=>115|210=>339|127=>330|145=>351|143=>349|21=>21|171=>254|173=>256|212=>277|51=>165|20=>20|213=>278|232=>322|233=>323|80=>101|n=>n,fun|15=>4|16=>5|17=>1|18=>2|19=>3|n=>n⟩
theorem Tryz.laysC172:Go.Proofs.LaysC.n172 prog Tryz.laysC172_ren:= {
 mixed:=by kernel_rfl
 f129:=sh func125
 f171:=sh func101
 f172:=sh func266
 f205:=sh func344
 f243:=sh func158
 f244:=sh func291
 f245:=sh func292
 f246:=sh func198
 f247:=sh func324
 f279:=sh func325
 f280:=sh func326
 f281:=sh func327
 f282:=sh func328
 f283:=sh func229
 f284:=sh func230
 f285:=sh func231
 f286:=sh func232
 f287:=sh func342
 f316:=sh func343
 f317:=sh func262
 f318:=sh func263
 f319:=sh func264
 f320:=sh func265
 f321:=sh func351
 f322:=sh func352
 f337:=sh func289
 f338:=sh func290
 t0:=underlying0
 a0:=Tryz.isAgg0
 z0:=Tryz.sizeOf0
 v0:=Tryz.zeroValue0
 t2:=underlying2
 a2:=Tryz.isAgg2
 z2:=Tryz.sizeOf2
 v2:=Tryz.zeroValue2
 t3:=underlying3
 a3:=Tryz.isAgg3
 z3:=Tryz.sizeOf3
 v3:=Tryz.zeroValue3
 t4:=underlying4
 a4:=Tryz.isAgg4
 z4:=Tryz.sizeOf4
 v4:=Tryz.zeroValue4
 t5:=underlying5
 a5:=Tryz.isAgg5
 z5:=Tryz.sizeOf5
 v5:=Tryz.zeroValue5
 t9:=underlying9
 a9:=Tryz.isAgg9
 z9:=Tryz.sizeOf9
 v9:=Tryz.zeroValue9
 t20:=underlying20
 a20:=Tryz.isAgg20
 z20:=Tryz.sizeOf20
 v20:=Tryz.zeroValue20
 t21:=underlying21
 a21:=Tryz.isAgg21
 z21:=Tryz.sizeOf21
 v21:=Tryz.zeroValue21
 t37:=underlying144
 a37:=Tryz.isAgg144
 z37:=Tryz.sizeOf144
 v37:=Tryz.zeroValue144
 t46:=underlying115
 a46:=Tryz.isAgg115
 z46:=Tryz.sizeOf115
 v46:=Tryz.zeroValue115
 t51:=underlying165
 a51:=Tryz.isAgg165
 z51:=Tryz.sizeOf165
 v51:=Tryz.zeroValue165
 t53:=underlying167
 a53:=Tryz.isAgg167
 z53:=Tryz.sizeOf167
 v53:=Tryz.zeroValue167
 t75:=underlying281
 a75:=Tryz.isAgg281
 z75:=Tryz.sizeOf281
 v75:=Tryz.zeroValue281
 t76:=underlying282
 a76:=Tryz.isAgg282
 z76:=Tryz.sizeOf282
 v76:=Tryz.zeroValue282
 t85:=underlying325
 a85:=Tryz.isAgg325
 z85:=Tryz.sizeOf325
 v85:=Tryz.zeroValue325
 t127:=underlying330
 a127:=Tryz.isAgg330
 z127:=Tryz.sizeOf330
 v127:=Tryz.zeroValue330
 t143:=underlying349
 a143:=Tryz.isAgg349
 z143:=Tryz.sizeOf349
 v143:=Tryz.zeroValue349
 t145:=underlying351
 a145:=Tryz.isAgg351
 z145:=Tryz.sizeOf351
 v145:=Tryz.zeroValue351
 t167:=underlying324
 a167:=Tryz.isAgg324
 z167:=Tryz.sizeOf324
 v167:=Tryz.zeroValue324
 t168:=underlying327
 a168:=Tryz.isAgg327
 z168:=Tryz.sizeOf327
 v168:=Tryz.zeroValue327
 t171:=underlying254
 a171:=Tryz.isAgg254
 z171:=Tryz.sizeOf254
 v171:=Tryz.zeroValue254
 t173:=underlying256
 a173:=Tryz.isAgg256
 z173:=Tryz.sizeOf256
 v173:=Tryz.zeroValue256
 t175:=underlying336
 a175:=Tryz.isAgg336
 z175:=Tryz.sizeOf336
 v175:=Tryz.zeroValue336
 t210:=underlying339
 a210:=Tryz.isAgg339
 z210:=Tryz.sizeOf339
 v210:=Tryz.zeroValue339
 t212:=underlying277
 a212:=Tryz.isAgg277
 z212:=Tryz.sizeOf277
 v212:=Tryz.zeroValue277
 t213:=underlying278
 a213:=Tryz.isAgg278
 z213:=Tryz.sizeOf278
 t232:=underlying322
 a232:=Tryz.isAgg322
 z232:=Tryz.sizeOf322
 v232:=Tryz.zeroValue322
 t233:=underlying323
 a233:=Tryz.isAgg323
 z233:=Tryz.sizeOf323
 v233:=Tryz.zeroValue323
 g15:=by kernel_rfl
 g16:=by kernel_rfl
 g17:=by kernel_rfl
 g18:=by kernel_rfl
 g19:=by kernel_rfl
 t80:=underlying101
 a80:=Tryz.isAgg101
 z80:=Tryz.sizeOf101
 v80:=Tryz.zeroValue101
 i0:=by kernel_rfl
 i2:=by kernel_rfl
 i3:=by kernel_rfl
 i4:=by kernel_rfl
 i5:=by kernel_rfl
 i9:=by kernel_rfl
 i20:=by kernel_rfl
 i21:=by kernel_rfl
 i37:=by kernel_rfl
 i46:=by kernel_rfl
 i51:=by kernel_rfl
 i53:=by kernel_rfl
 i75:=by kernel_rfl
 i76:=by kernel_rfl
 i80:=by kernel_rfl
 i85:=by kernel_rfl
 i127:=by kernel_rfl
 i143:=by kernel_rfl
 i145:=by kernel_rfl
 i167:=by kernel_rfl
 i168:=by kernel_rfl
 i171:=by kernel_rfl
 i173:=by kernel_rfl
 i175:=by kernel_rfl
 i210:=by kernel_rfl
 i212:=by kernel_rfl
 i232:=by kernel_rfl
 i233:=by kernel_rfl
 m15:=by kernel_rfl
 m16:=by kernel_rfl
 m17:=by kernel_rfl
 m18:=by kernel_rfl
 m19:=by kernel_rfl
 c0:=by kernel_rfl
 c2:=by kernel_rfl
 c3:=by kernel_rfl
 c4:=by kernel_rfl
 c5:=by kernel_rfl
 c9:=by kernel_rfl
 c20:=by kernel_rfl
 c21:=by kernel_rfl
 c37:=by kernel_rfl
 c46:=by kernel_rfl
 c51:=by kernel_rfl
 c53:=by kernel_rfl
 c75:=by kernel_rfl
 c76:=by kernel_rfl
 c80:=by kernel_rfl
 c85:=by kernel_rfl
 c127:=by kernel_rfl
 c143:=by kernel_rfl
 c145:=by kernel_rfl
 c167:=by kernel_rfl
 c168:=by kernel_rfl
 c171:=by kernel_rfl
 c173:=by kernel_rfl
 c175:=by kernel_rfl
 c210:=by kernel_rfl
 c212:=by kernel_rfl
 c213:=by kernel_rfl
 c232:=by kernel_rfl
 c233:=by kernel_rfl}
open Go.RowKit in
theorem Tryz.atoiV(s:ByteArray)(hmax:s.size≤9223372036854775806)(v:Int)(h:Lib.atoiAll s.data.toList= .ok v)(w:World):
  Calls prog 266 #[.string s] w fun e w'=>e= .returned (.tuple #[.int .i64 v,.nilIface])∧(w'=w∨∃t,w'=Lib.bytesWorld w 5 t):=Any.strconv_Atoi_ok Tryz.laysC172 s hmax v h w
open Go.RowKit in
theorem Tryz.atoiS(s:ByteArray)(hlim:s.size≤281474976710656)(h:Lib.atoiAll s.data.toList=Lib.atoiAll [])(ev:Value)(w:World)(hv:w.cell? ⟨4,0,none⟩=some ev)(hev:ev= .nilIface∨∃te pe,ev= .iface te pe):
  Calls prog 266 #[.string s] w fun e w'=>∃N,e= .returned (.tuple #[.int .i64 (0),.iface 327 (.pointer (some ⟨N,0,none⟩))])∧w.heap.size≤N∧w'.heap[N]?=some (.cells #[.string ⟨#[65,116,111,105]⟩,.string s,ev] 339 (0,0))∧Below w.heap.size w w':=Any.strconv_Atoi_syntax Tryz.laysC172 s hlim (h.trans (by kernel_rfl)) ev w hv hev
open Go.RowKit in
theorem Tryz.atoiR(s:ByteArray)(hlim:s.size≤281474976710656)(h:Lib.atoiAll s.data.toList= .range)(ev:Value)(w:World)(hv:w.cell? ⟨5,0,none⟩=some ev)(hev:ev= .nilIface∨∃te pe,ev= .iface te pe):
  Calls prog 266 #[.string s] w fun e w'=>∃N,e= .returned (.tuple #[.int .i64 (Lib.atoiSat s.data.toList),.iface 327 (.pointer (some ⟨N,0,none⟩))])∧w.heap.size≤N∧w'.heap[N]?=some (.cells #[.string ⟨#[65,116,111,105]⟩,.string s,ev] 339 (0,0))∧Below w.heap.size w w':=Any.strconv_Atoi_range Tryz.laysC172 s hlim h ev w hv hev
def Tryz.laysGw17_ren:Go.Shelf.Ren:=⟨fun|17=>236|15=>267|20=>293|n=>n,fun|9=>9|23=>260|4=>4|3=>3|0=>0|21=>21|n=>n,fun|n=>n⟩
theorem Tryz.laysGw17:Go.Proofs.LaysGw.n17 prog Tryz.laysGw17_ren:= {
 mixed:=by kernel_rfl
 f15:=sh func267
 f17:=sh func236
 f20:=sh func293
 t0:=underlying0
 a0:=Tryz.isAgg0
 z0:=Tryz.sizeOf0
 v0:=Tryz.zeroValue0
 i0:=by kernel_rfl
 t3:=underlying3
 a3:=Tryz.isAgg3
 z3:=Tryz.sizeOf3
 v3:=Tryz.zeroValue3
 i3:=by kernel_rfl
 t4:=underlying4
 a4:=Tryz.isAgg4
 z4:=Tryz.sizeOf4
 v4:=Tryz.zeroValue4
 i4:=by kernel_rfl
 t9:=underlying9
 a9:=Tryz.isAgg9
 z9:=Tryz.sizeOf9
 v9:=Tryz.zeroValue9
 i9:=by kernel_rfl
 t21:=underlying21
 a21:=Tryz.isAgg21
 z21:=Tryz.sizeOf21
 v21:=Tryz.zeroValue21
 i21:=by kernel_rfl
 t23:=underlying260
 a23:=Tryz.isAgg260
 z23:=Tryz.sizeOf260
 v23:=Tryz.zeroValue260
 i23:=by kernel_rfl}
open Go.RowKit Go.Lib in
theorem Tryz.strings_ContainsFunc(g:Nat)(lb:Array Value)(eg:∀args w,(callFunc g args).run prog w= .ok (.enter g args) w)(p:Nat→Bool)(s:ByteArray)(w:World)(hp:PredAt prog g lb encR p w):
  Calls prog 236 #[.string s,.func (.func g) #[] lb] w fun e w'=>e= .returned (.bool (decide (0≤Lib.idxFunc p true s)))∧Below w.heap.size w w':=Any.strings_ContainsFunc Tryz.laysGw17 g lb eg p s w hp
end Go.Proofs
namespace Go.Vam
open Go.Proofs Go.Proofs.Tryz Go.RowKit
theorem Ad9:∀t:List UInt8,(∀b∈t,b≠47)→Bd t= [t]
 | [],_=>rfl
 |c::r,h=>by
  unfold Bd;have hc:(c == 47)=false:=by simpa using h c (by simp)
  rw[hc,Ad9 r (fun b hb=>h b (by simp[hb]))]
  rfl
theorem Abm:∀(t:List UInt8) (i:Nat),t[i]?=some 47→(∀k,k<i→t[k]?≠some 47)→Bd t=t.take i::Bd (t.drop (i+1))
 | [],i,h,_=>by simp at h
 |c::r,0,h,_=>by
  have hc:c=47:=by simpa using h
  subst hc;simp[Bd]
 |c::r,i+1,h,hno=>by
  have hc:(c == 47)=false:=by
   have:=hno 0 (by omega)
   simpa using this
  have ih:=Abm r i (by simpa using h) (fun k hk=>by
   have:=hno (k+1) (by omega)
   simpa using this)
  rw[Bd,hc,ih];rfl
def Lc:ByteArray:=⟨#[47]⟩
theorem Aaa:∀(n:Nat) (s:List UInt8),s.length≤n→Lib.splitB Lc 0 (Lib.countB ⟨s.toArray⟩ Lc) ⟨s.toArray⟩=(Bd s).map fun t=>(⟨t.toArray⟩:ByteArray)
 |n,s,hn=>by
  have hone:Lib.indexB ⟨s.toArray⟩ Lc=Lib.indexByte s 47:=by have:=Lib.one ⟨s.toArray⟩ Lc rfl;exact this
  rcases Lib.indexB_cases ⟨s.toArray⟩ Lc with h|⟨i,h,hi⟩
  ·rw[Lib.splitB_miss _ _ _ _ h];rw[hone]at h;have h1:=Lib.indexByte_none h;rw[Ad9 s (fun b hb hb2=>by
    obtain⟨k,hk⟩:=List.mem_iff_getElem?.1 hb;rw[hb2]at hk;exact h1 k hk)]
   rfl
  ·rw[Lib.countB_hit _ _ i (by decide) h]
   rw[Nat.add_comm 1,Lib.splitB_hit _ _ _ _ i h];have h':=h;rw[hone]at h';obtain⟨h1,h2⟩:=Lib.indexByte_some h';have hil:i<s.length:=(List.getElem?_eq_some_iff.1 h1).1;rw[Abm s i h1 h2];have hex:(⟨s.toArray⟩:ByteArray).extract (i+Lc.size) (⟨s.toArray⟩:ByteArray).size=⟨(s.drop (i+1)).toArray⟩:=by apply ByteArray.ext;simp[Lc,ByteArray.size,ByteArray.data_extract];rw[List.take_of_length_le (by rw[List.length_drop];omega)]
   have hex0:(⟨s.toArray⟩:ByteArray).extract 0 (i+0)=⟨(s.take i).toArray⟩:=by apply ByteArray.ext;simp[ByteArray.data_extract]
   rw[hex,hex0];have ih:=Aaa (n - 1) (s.drop (i+1)) (by rw[List.length_drop];omega)
   rw[ih];rfl
 termination_by n s=>s.length
 decreasing_by
  rw[List.length_drop];have:=(List.getElem?_eq_some_iff.1 h1).1;omega
def Sg:Bz:=fun _ args st=>match args with
 | [.str s,.str [47]]=>if s.length<4294967281 then some (.sl (Lf (Bd s)) .none,st,[])else none
 |_=>none
theorem Adz(cf:Ah):Ba (Sg cf):=Gl (fun cf args st v st' W h=>by
 unfold Sg at h;split at h
 case h_2=>cases h
 split at h
 case isFalse=>cases h
 cases h;rfl) cf
theorem Aep{β:Nat→Nat→Option Value}(hβ:I6 β)(cf:Ah):Ji prog β 226 (Sg cf):=by
 intro args st v st' W h g w A hb hs hA;unfold Sg at h;split at h
 case h_2=>cases h
 rename_i s;split at h
 case isFalse=>cases h
 rename_i hl;cases h;obtain⟨v0,v1,rfl⟩:=Ku (A:=A) (by simpa using hA.size)
 have hv0:VR g (.str s) v0:=hA.at_ 0 _ _ rfl rfl;have hv1:VR g (.str [47]) v1:=hA.at_ 1 _ _ rfl rfl;rw[C9 hv0,C9 hv1];obtain⟨m,hm⟩:=Xd hβ hb hs;refine(Tryz.strings_Split ⟨s.toArray⟩ Lc m w hl hm (by decide)).mono ?_
 rintro e w' ⟨rfl,rfl⟩;have hp:=Aaa s.length s (Nat.le_refl _);have hlen:(Bd s).length=Lib.countB ⟨s.toArray⟩ Lc+1:=by
  have h1:=Lib.splitB_all Lc (by decide) 0 (Lib.countB ⟨s.toArray⟩ Lc) ⟨s.toArray⟩ rfl
  rw[hp,List.length_map]at h1;exact h1
 have hpush:Push w (w.alloc (.cells ((Lib.splitB Lc 0 (Lib.countB ⟨s.toArray⟩ Lc) ⟨s.toArray⟩).map Value.string).toArray 9)) (.cells ((Lib.splitB Lc 0 (Lib.countB ⟨s.toArray⟩ Lc) ⟨s.toArray⟩).map Value.string).toArray 9):=⟨rfl,rfl,rfl⟩;obtain⟨q1,q2⟩:=hs.addRow hpush;refine⟨_,_,rfl,?_,q1,q2,?_⟩
 ·rw[← hlen];have:=VR.slOf (g:=g.addI w.heap.size ((Lib.splitB Lc 0 (Lib.countB ⟨s.toArray⟩ Lc) ⟨s.toArray⟩).map Value.string).toArray) (rows:=Lf (Bd s)) (gr:= .none) (c:=w.heap.size) (o:=0) (sz:=1) (cap:=(Bd s).length) (fun r hr=>by
    unfold Lf at hr;obtain⟨t,_,rfl⟩:=List.mem_map.1 hr;rfl) (fun j d hj=>by
    have hfl:(Lf (Bd s)).flatten=(Bd s).map D.str:=by
     unfold Lf;induction Bd s with
     |nil=>rfl
     |cons a l ih=>simp[ih]
    rw[hfl,List.getElem?_map,Option.map_eq_some_iff]at hj;obtain⟨t,ht,rfl⟩:=hj;refine⟨.string ⟨t.toArray⟩,?_,VR.str ⟨t.toArray⟩⟩;rw[hp];simp[G.addI,ht]) (by simp[Lf]) trivial
  simpa[Lf]using this
 ·exact Dx.refl _ _
end Go.Vam
namespace Go.Proofs
open Go.Lib Go.Proofs.Tryz Go.RowKit Go.Sort Go.Vam
def Air(n:Nat):Bool:=(decide (97≤n) && decide (n≤122)) || (decide (65≤n) && decide (n≤90)) || (decide (48≤n) && decide (n≤57)) || n == 46 || n == 95 || n == 45
theorem Tryz.sign267(x:Nat)(w:World):Calls prog 238 #[.int .i32 (x:Int)] w fun e w'=>e= .returned (.bool (Air x))∧w'=w:=by
 go_enter func238,ntmps238
 go_wp2
 all_goals go_ret
 all_goals refine⟨?_,rfl⟩
 all_goals show Ending.returned (Value.bool _)=_
 all_goals congr 2
 all_goals rw[Bool.eq_iff_iff]
 all_goals simp only[Air,Bool.or_eq_true,Bool.and_eq_true,decide_eq_true_eq,beq_iff_eq,true_iff]
 all_goals omega
theorem Tryz.not266(x:Nat)(w:World):Calls prog 237 #[.int .i32 (x:Int)] w fun e w'=>e= .returned (.bool (!Air x))∧w'=w:=by
 go_enter func237,ntmps237
 go_wp2_with (go_at_call 238;refine(Tryz.sign267 x _).mono ?_;rintro e w' ⟨rfl,rfl⟩)
 all_goals go_ret
 all_goals exact⟨rfl,rfl⟩
theorem Afv(l:List UInt8)(ha:∀b∈l,b.toNat<128)(p:Nat→Bool):∀(f pos:Nat),l.length - pos≤f→decide (0≤Lib.idxFuncFrom p true ⟨l.toArray⟩ f pos)=(l.drop pos).any fun b=>p b.toNat
 |0,pos,h=>by
  rw[List.drop_eq_nil_of_le (by omega)]
  rfl
 |f+1,pos,h=>by
  unfold Lib.idxFuncFrom;have hsz:(⟨l.toArray⟩:ByteArray).size=l.length:=by simp[ByteArray.size]
  rw[hsz];by_cases hlt:pos<l.length
  ·have hg:(⟨l.toArray⟩:ByteArray)[pos]'(by rw[hsz];exact hlt)=l[pos]:=rfl
   have hd:=decode_ascii ⟨l.toArray⟩ pos (by rw[hsz];exact hlt) (by rw[hg];exact ha _ (List.getElem_mem hlt))
   rw[if_pos hlt,hd,hg,List.drop_eq_getElem_cons hlt];simp only[List.any_cons];by_cases hp:p l[pos].toNat=true
   ·rw[if_pos hp,hp];simp
   ·rw[if_neg hp];have hp2:p l[pos].toNat=false:=by simpa using hp
    rw[hp2,Bool.false_or];exact Afv l ha p f (pos+1) (by omega)
  ·rw[if_neg hlt,List.drop_eq_nil_of_le (by omega)]
   rfl
end Go.Proofs
namespace Go.Vam
open Go.Lib Go.Proofs Go.Proofs.Tryz Go.RowKit
def Ru:Bz:=fun _ args st=>match args with
 | [.str s,.func 237 [] []]=>if s.all (fun b=>decide (b.toNat<128))then some (.bool (s.any fun b=>!Air b.toNat),st,[])else none
 |_=>none
theorem Adf(cf:Ah):Ba (Ru cf):=Gl (fun cf args st v st' W h=>by
 unfold Ru at h;split at h
 case h_2=>cases h
 split at h
 case isFalse=>cases h
 cases h;rfl) cf
theorem Ae5{β:Nat→Nat→Option Value}(cf:Ah):Ji prog β 236 (Ru cf):=by
 intro args st v st' W h g w A hb hs hA;unfold Ru at h;split at h
 case h_2=>cases h
 rename_i s;split at h
 case isFalse=>cases h
 rename_i hl;cases h;obtain⟨v0,v1,rfl⟩:=Ku (A:=A) (by simpa using hA.size)
 have hv0:VR g (.str s) v0:=hA.at_ 0 _ _ rfl rfl;have hv1:VR g (.func 237 [] []) v1:=hA.at_ 1 _ _ rfl rfl;rw[C9 hv0];cases hv1 with
 |func ha hb'=>
 rename_i A B _ _;have hA0:A= #[]:=Array.eq_empty_of_size_eq_zero ha;have hB0:B= #[]:=Array.eq_empty_of_size_eq_zero hb';subst hA0 hB0;have hasc:∀b∈s,b.toNat<128:=fun b hb=>by have:=List.all_eq_true.1 hl b hb;simpa using this
 refine(Tryz.strings_ContainsFunc 237 #[] (enters_of func237 (by kernel_rfl) rfl) (fun n=>!Air n) ⟨s.toArray⟩ w (fun W x _=>?_)).mono ?_
 ·refine(Tryz.not266 x W).mono ?_;rintro e w' ⟨rfl,rfl⟩;exact⟨rfl,0,rfl⟩
 ·rintro e w' ⟨rfl,hB⟩;have:=Afv s hasc (fun n=>!Air n) s.length 0 (by omega)
  rw[List.drop_zero]at this;unfold Lib.idxFunc;rw[show(⟨s.toArray⟩:ByteArray).size=s.length from by simp[ByteArray.size],this]
  obtain⟨h4,h5⟩:=Kz hs hB;exact⟨_,g,rfl,VR.bool _,h4,h5,Dx.refl _ _⟩
theorem Axc(b:UInt8):Air b.toNat=Ig b:=by rw[Bool.eq_iff_iff,Agj];simp only[Air,Bool.or_eq_true,Bool.and_eq_true,decide_eq_true_eq,beq_iff_eq];omega
end Go.Vam
namespace Go.Vam
open Go.Lib Go.Proofs
theorem Aug(l:List UInt8)(c:UInt8):∀a:Int,Mc (l++ [c]) a=(Mc l a).bind fun n=>Mc [c] n:=by
 induction l with
 |nil=>intro a;rfl
 |cons x l ih=>
  intro a;simp only[List.cons_append,Mc];split
  ·rfl
  ·split
   ·rfl
   ·split
    ·rfl
    ·rw[ih];simp only[Mc]
theorem Aux{x:Int}(h:0≤x):x.tdiv 10=x / 10:=Int.tdiv_eq_ediv_of_nonneg h
theorem Amn{d:Nat}(h:d<10):(UInt8.ofNat (48+d)).toNat=48+d:=by rw[UInt8.toNat_ofNat'];omega
theorem Alp{d:Nat}{a:Int}(hd:d<10)(h0:0≤a)(h:a*10+(d:Int)≤9223372036854775807):Mc [UInt8.ofNat (48+d)] a=some (a*10+(d:Int)):=by
 simp only[Mc,Amn hd];rw[if_neg (by omega),if_neg (by omega),Aux (by omega),if_neg (by omega)]
 congr 1;omega
theorem Aur:∀(v:Nat),v≤9223372036854775807→Mc (decDigits v) 0=some (v:Int):=by
 intro v;induction v using Nat.strongRecOn with
 |ind v ih=>
  intro hv;rw[decDigits];by_cases h:v<10
  ·rw[dif_pos h,Alp h (by omega) (by omega)]
   congr 1;omega
  ·rw[dif_neg h,Aug,ih (v / 10) (by omega) (by omega),Option.bind_some,Alp (by omega) (by omega) (by omega)]
   congr 1;omega
theorem M4{c:UInt8}{r:List UInt8}{a n:Int}(h:Mc (c::r) a=some n)(ha:0≤a)(ha2:a≤9223372036854775807):∃d:Nat,d<10∧c=UInt8.ofNat (48+d)∧c.toNat=48+d∧a*10+(d:Int)≤9223372036854775807∧Mc r (a*10+(d:Int))=some n:=by
 simp only[Mc]at h;split at h
 ·cases h
 split at h
 ·cases h
 split at h
 ·cases h
 rename_i h1 h2 h3;rw[Aux (by omega)]at h3
 refine⟨c.toNat - 48,by omega,?_,by omega,by omega,?_⟩
 ·apply UInt8.toNat_inj.1;rw[Amn (by omega)]
  omega
 ·rw[← h];congr 1;omega
theorem Aks:∀(r:List UInt8) (a:Nat) (n:Int),1≤a→a≤9223372036854775807→Mc r (a:Int)=some n→∃m:Nat,n=(m:Int)∧decDigits m=decDigits a++r
 | [],a,n,_,_,h=>by cases h;exact⟨a,rfl,by simp⟩
 |c::r,a,n,h1,h2,h=>by
  obtain⟨d,hd,hc,_,hle,hg⟩:=M4 h (by omega) (by omega)
  obtain⟨m,rfl,hm⟩:=Aks r (a*10+d) n (by omega) (by omega) (by rw[← hg];congr 1)
  refine⟨m,rfl,?_⟩;rw[hm,decDigits,dif_neg (by omega),show(a*10+d) / 10=a from by omega,show(a*10+d) % 10=d from by omega,← hc]
  simp
theorem A9h:∀v:Nat,decDigits v≠ []:=fun v=>by rw[decDigits];split<;>simp
theorem Axg:∀(v:Nat) (x:List UInt8),decDigits v=48::x→v=0∧x= []:=by
 intro v;induction v using Nat.strongRecOn with
 |ind v ih=>
  intro x h;rw[decDigits]at h;by_cases hv:v<10
  ·rw[dif_pos hv]at h;have h1:UInt8.ofNat (48+v)=48:=(List.cons.inj h).1;have h2:=(List.cons.inj h).2;have h3:=Amn hv;rw[h1]at h3;have h4:(48:UInt8).toNat=48:=rfl;exact⟨by omega,h2.symm⟩
  ·rw[dif_neg hv]at h;cases hd:decDigits (v / 10)with
   |nil=>exact absurd hd (A9h _)
   |cons y ys=>
    rw[hd,List.cons_append]at h;have h1:=(List.cons.inj h).1;subst h1;have:=(ih (v / 10) (by omega) ys hd).1
    omega
theorem Abp:∀(r:List UInt8) (a n:Int),0≤a→a≤9223372036854775807→Mc r a=some n→0≤n∧n≤9223372036854775807
 | [],a,n,h1,h2,h=>by cases h;exact⟨h1,h2⟩
 |c::r,a,n,h1,h2,h=>by obtain⟨d,hd,_,_,hle,hg⟩:=M4 h h1 h2;exact Abp r _ n (by omega) hle hg
theorem Abe:∀(r:List UInt8) (a:Nat) (n:Int),a≤9223372036854775807→Mc r (a:Int)=some n→parseUint10 a r= .ok n.toNat
 | [],a,n,_,h=>by cases h;rfl
 |c::r,a,n,h2,h=>by
  obtain⟨d,hd,_,hc,hle,hg⟩:=M4 h (by omega) (by omega)
  rw[parseUint10,hc,if_pos (by omega),if_neg (by omega),if_neg (by omega),show 48+d - 48=d from by omega]
  exact Abe r (a*10+d) n (by omega) (by rw[← hg];congr 1)
theorem Asj{t:List UInt8}{n:Int}(hne:t≠ [])(h:Mc t 0=some n):atoiAll t= .ok n:=by
 obtain⟨p1,p2⟩:=Abp t 0 n (by omega) (by omega) h
 have hp:=Abe t 0 n (by omega) h
 cases t with
 |nil=>exact absurd rfl hne
 |cons c r=>
  obtain⟨d,hd,_,hc,_,_⟩:=M4 h (by omega) (by omega)
  unfold atoiAll;simp only[hc];rw[if_neg (by omega)]
  unfold parseMag;rw[if_neg (by simp),hp]
  simp only;rw[if_neg (by omega),if_neg (by omega),if_neg (by omega)]
  congr 1;omega
def Rb(t:List UInt8)(b:Int):Int × Bool:=match atoiAll t with
 | .ok v=>if v<0 then(0,false)else if b<v then(0,false)else if P7 v.toNat=t then(v,true)else(0,false)
 |_=>(0,false)
theorem Aw6(t:List UInt8)(b:Int)(hb:b<2 ^ 62):Rb t b=grN t b:=by
 unfold grN;cases hg:Mc t 0 with
 |none=>
  unfold Rb;cases ha:atoiAll t with
  |ok v=>
   simp only;by_cases h1:v<0
   ·rw[if_pos h1]
   rw[if_neg h1];by_cases h2:b<v
   ·rw[if_pos h2]
   rw[if_neg h2,if_neg];intro h3;rw[Ahi _ (by omega)]at h3
   have:=Aur v.toNat (by omega)
   rw[h3,hg]at this;cases this
  |_=>rfl
 |some n=>
  cases t with
  |nil=>unfold Rb Ab3;rfl
  |cons c r=>
   obtain⟨p1,p2⟩:=Abp _ 0 n (by omega) (by omega) hg
   unfold Rb;rw[Asj (by simp) hg]
   simp only;rw[if_neg (by omega)]
   unfold Ab3;simp only[show((c::r) == [])=false from rfl,Bool.false_or,List.head?_cons,List.length_cons];by_cases h2:b<n
   ·rw[if_pos h2];have:(if 1<r.length+1 then(some c == some 48 || decide (b<n))else decide (b<n))=true:=by
     rw[show decide (b<n)=true from decide_eq_true h2];split<;>simp
    rw[if_pos this]
   rw[if_neg h2,Ahi _ (by omega)]
   rw[show decide (b<n)=false from decide_eq_false h2,Bool.or_false];obtain⟨d,hd,hc,hcn,hle,hgr⟩:=M4 hg (by omega) (by omega)
   by_cases hz:d=0
   ·subst hz;have hc48:c=48:=hc;subst hc48;cases r with
    |nil=>
     have hn0:n=0:=by simp only[Mc]at hgr;simpa using hgr.symm
     subst hn0;rw[if_pos (by rw[decDigits];rfl)]
     rfl
    |cons c2 r2=>
     rw[if_neg,if_pos (by simp)]
     intro h3;have:=Axg _ _ h3;cases this.2
   ·obtain⟨m,rfl,hm⟩:=Aks r d n (by omega) (by omega) (by rw[← hgr];congr 1;omega)
    rw[if_pos]
    ·rw[if_neg];have:(some c == some (48:UInt8))=false:=by
      rw[beq_eq_false_iff_ne];intro h;cases h;have h48:(48:UInt8).toNat=48:=rfl;omega
     rw[this];simp
    ·rw[show((m:Int)).toNat=m from by omega,hm,decDigits,dif_pos hd,← hc]
     rfl
end Go.Vam
namespace Go.Proofs
open Go.Lib Go.Proofs.Tryz Go.RowKit Go.Shelf Go.Sort Go.Vam
theorem frw{a b c:World}(h:Fr a.heap.size a b)(k:Fr b.heap.size b c):Fr a.heap.size a c:=
 ⟨k.os.trans h.os,k.output.trans h.output,Nat.le_trans h.size k.size,fun i hi=>(k.block i (Nat.lt_of_lt_of_le hi h.size)).trans (h.block i hi)⟩
theorem Tryz.get263(t:List UInt8)(b:Int)(hl:t.length≤1000)(hb0:0≤b)(hb:b<2 ^ 62)(w:World)(hS:∃tp p,w.cell? ⟨4,0,none⟩=some (.iface tp p))(hR:∃tp p,w.cell? ⟨5,0,none⟩=some (.iface tp p))
  (h37:∀wr,Fr w.heap.size w wr→∀n:Nat,n<2 ^ 62→Calls prog 49 #[.int .i64 n] wr fun e w'=>e= .returned (encStr (P7 n))∧Fr wr.heap.size wr w'):
  Calls prog 234 #[.string ⟨t.toArray⟩,.int .i64 b] w fun e w'=>e= .returned (.tuple #[.int .i64 (Rb t b).1,.bool (Rb t b).2])∧Fr w.heap.size w w':=by
 obtain⟨tp,p,hS⟩:=hS;obtain⟨tq,q,hR⟩:=hR;have hsz:(⟨t.toArray⟩:ByteArray).size=t.length:=by simp[ByteArray.size]
 by_cases hsy:atoiAll t=atoiAll []
 ·have hm:Rb t b=(0,false):=by unfold Rb;rw[hsy];rfl
  have hcon:=Tryz.atoiS ⟨t.toArray⟩ (by omega) hsy _ w hS (.inr ⟨tp,p,rfl⟩)
  rw[hm];generalize(⟨t.toArray⟩:ByteArray)=s at hcon
  go_enter func234,ntmps234
  go_wp2_with (go_at_call 266;refine hcon.mono ?_;rintro e w' ⟨N,rfl,_,_,hB⟩)
  go_ret2
  exact⟨rfl,hB.os,hB.output,hB.size,hB.block⟩
 cases ha:atoiAll t with
 |range=>
  have hm:Rb t b=(0,false):=by unfold Rb;rw[ha]
  have hcon:=Tryz.atoiR ⟨t.toArray⟩ (by omega) ha _ w hR (.inr ⟨tq,q,rfl⟩)
  rw[hm];generalize(⟨t.toArray⟩:ByteArray)=s at hcon
  go_enter func234,ntmps234
  go_wp2_with (go_at_call 266;refine hcon.mono ?_;rintro e w' ⟨N,rfl,_,_,hB⟩)
  go_ret2
  exact⟨rfl,hB.os,hB.output,hB.size,hB.block⟩
 |ok v=>
  have hcon:=Tryz.atoiV ⟨t.toArray⟩ (by omega) v ha w
  have hcon2:Calls prog 266 #[.string ⟨t.toArray⟩] w fun e w'=>e= .returned (.tuple #[.int .i64 v,.nilIface])∧Fr w.heap.size w w':=by
   refine hcon.mono ?_;rintro e w' ⟨rfl,rfl|⟨u,rfl⟩⟩
   ·exact⟨rfl,rfl,rfl,Nat.le_refl _,fun _ _=>rfl⟩
   ·refine⟨rfl,?_⟩;exact⟨rfl,rfl,by rw[bytesWorld_size];omega,fun k hk=>bytesWorld_at_old w 5 u k hk⟩
  have hm:Rb t b=if v<0 then(0,false)else if b<v then(0,false)else if P7 v.toNat=t then(v,true)else(0,false):=by unfold Rb;rw[ha]
  rw[hm];clear hm hcon;by_cases h1:v<0
  ·rw[if_pos h1];generalize(⟨t.toArray⟩:ByteArray)=s at hcon2
   go_enter func234,ntmps234
   go_wp2_with (go_at_call 266;refine hcon2.mono ?_;rintro e w' ⟨rfl,hB⟩)
   go_ret2
   exact⟨rfl,hB⟩
  rw[if_neg h1];by_cases h2:b<v
  ·rw[if_pos h2];generalize(⟨t.toArray⟩:ByteArray)=s at hcon2
   go_enter func234,ntmps234
   go_wp2_with (go_at_call 266;refine hcon2.mono ?_;rintro e w' ⟨rfl,hB⟩)
   go_ret2
   exact⟨rfl,hB⟩
  rw[if_neg h2];obtain⟨n,rfl⟩:∃n:Nat,v=(n:Int):=⟨v.toNat,by omega⟩
  rw[show((n:Int)).toNat=n from by omega]
  have hn:n<2 ^ 62:=by omega
  have hnb:(n:Int)≤b:=by omega
  by_cases h3:P7 n=t
  ·rw[if_pos h3];have h4:(⟨(P7 n).toArray⟩:ByteArray)=⟨t.toArray⟩:=by rw[h3]
   have h37':∀wr,Fr w.heap.size w wr→Calls prog 49 #[.int .i64 n] wr fun e w'=>e= .returned (.string ⟨t.toArray⟩)∧Fr wr.heap.size wr w':=fun wr hf=>by have:=h37 wr hf n hn;unfold encStr at this;rw[h4]at this;exact this
   generalize(⟨t.toArray⟩:ByteArray)=s at hcon2 h37'
   go_enter func234,ntmps234
   go_wp2_with (first
    |(go_at_call 266;refine hcon2.mono ?_;rintro e w' ⟨rfl,hB⟩)
    |(go_at_call 49;refine(h37' _ (by assumption)).mono ?_;rintro e w'' ⟨rfl,hB2⟩))
   go_ret2
   exact⟨rfl,frw hB hB2⟩
  ·rw[if_neg h3];have h37':=fun wr hf=>h37 wr hf n hn;have hns:((⟨(P7 n).toArray⟩:ByteArray).toList == (⟨t.toArray⟩:ByteArray).toList)=false:=by
    rw[beq_eq_false_iff_ne];intro h;have:=congrArg (fun x:ByteArray=>x.data.toList) (LastIndex.eq_of_toList h);exact h3 (by simpa using this)
   unfold encStr at h37';generalize(⟨t.toArray⟩:ByteArray)=s at hcon2 hns;generalize(⟨(P7 n).toArray⟩:ByteArray)=s2 at h37' hns
   go_enter func234,ntmps234
   go_wp2_with (first
    |(go_at_call 266;refine hcon2.mono ?_;rintro e w' ⟨rfl,hB⟩)
    |(go_at_call 49;refine(h37' _ (by assumption)).mono ?_;rintro e w'' ⟨rfl,hB2⟩))
   go_ret2
   exact⟨rfl,frw hB hB2⟩
 |_=>exact absurd (ha.trans (by kernel_rfl)) hsy
end Go.Proofs
namespace Go.Vam
open Go.Lib Go.Proofs Go.Proofs.Tryz Go.RowKit
def A6b(β:Nat→Nat→Option Value):Prop:=(∃tp p,β 4 0=some (.iface tp p))∧(∃tp p,β 5 0=some (.iface tp p))
def Ads:Bz:=fun _ args st=>match args with
 | [.str t,.int .i64 b]=>if t.length≤1000∧0≤b∧b<2 ^ 62 then some (.tup [.int .i64 (grN t b).1,.bool (grN t b).2],st,[])else none
 |_=>none
theorem Ahn(cf:Ah):Ba (Ads cf):=Gl (fun cf args st v st' W h=>by
 unfold Ads at h;split at h
 case h_2=>cases h
 split at h
 case isFalse=>cases h
 cases h;rfl) cf
theorem Ak9{β:Nat→Nat→Option Value}(hT:Aw0 β)(hE:A6b β)(cf:Ah):Ji prog β 234 (Ads cf):=by
 intro args st v st' W h g w A hb hs hA;unfold Ads at h;split at h
 case h_2=>cases h
 rename_i t b;split at h
 case isFalse=>cases h
 rename_i hl;cases h;obtain⟨v0,v1,rfl⟩:=Ku (A:=A) (by simpa using hA.size)
 have hv0:VR g (.str t) v0:=hA.at_ 0 _ _ rfl rfl;have hv1:VR g (.int .i64 b) v1:=hA.at_ 1 _ _ rfl rfl;rw[C9 hv0];cases hv1;obtain⟨⟨tp,p,e1⟩,⟨tq,q,e2⟩⟩:=hE;replace e1:∃tp p,w.cell? ⟨4,0,none⟩=some (.iface tp p):=⟨tp,p,hs.imm _ _ _ (hs.base _ _ _ (by rw[hb];exact e1)).1⟩
 replace e2:∃tp p,w.cell? ⟨5,0,none⟩=some (.iface tp p):=⟨tq,q,hs.imm _ _ _ (hs.base _ _ _ (by rw[hb];exact e2)).1⟩
 refine(Tryz.get263 t b hl.1 hl.2.1 hl.2.2 w e1 e2 (fun wr hf n hn=>?_)).mono ?_
 ·obtain⟨hsr,_⟩:=Xi hs hf;exact Tryz.number37 n hn wr (hT g st wr hb hsr)
 ·rintro e w' ⟨rfl,hf⟩;obtain⟨h4,h5⟩:=Xi hs hf;rw[Aw6 t b hl.2.2];refine⟨_,g,rfl,?_,h4,h5,Dx.refl _ _⟩;refine .tup rfl fun j d u hj hu=>?_
  match j with
  |0=>cases hj;cases hu;constructor
  |1=>cases hj;cases hu;constructor
  |j+2=>cases hj
end Go.Vam
namespace Go.Vam
open Go.Proofs Go.Proofs.Tryz Go.RowKit
def Sz(acc:List (List UInt8))(c:UInt8):List (List UInt8):=if c == 47 then acc++ [[]]else acc.dropLast++ [acc.getLastD []++ [c]]
def Vl(l:List UInt8):List (List UInt8):=l.foldl Sz [[]]
theorem Agx{c:UInt8}(hc:¬ (c == 47)=true){qs:List (List UInt8)}{l:List UInt8}:Sz (qs++ [l]) c=qs++ [l++ [c]]:=by
 unfold Sz;rw[if_neg hc,List.dropLast_concat];congr 1;congr 1;cases qs with
 |nil=>rfl
 |cons q qs=>show((q::(qs++ [l])).getLastD [])++ [c]=l++ [c];rw[show(q::(qs++ [l])).getLastD []=l from by rw[← List.cons_append,List.getLastD_eq_getLast?,List.getLast?_concat];rfl]
theorem As5:∀(t:List UInt8) (qs:List (List UInt8)) (l:List UInt8),t.foldl Sz (qs++ [l])=qs++(l++(Bd t).headD [])::(Bd t).tail
 | [],qs,l=>by simp[Bd]
 |c::r,qs,l=>by
  rw[List.foldl_cons];unfold Bd;by_cases hc:(c == 47)=true
  ·rw[show Sz (qs++ [l]) c=(qs++ [l])++ [[]]from by unfold Sz;rw[if_pos hc],if_pos hc,As5 r (qs++ [l]) []]
   have:=(Gj r).2;cases hp:Bd r with
   |nil=>exact absurd hp this
   |cons p ps=>simp
  ·rw[Agx hc,if_neg hc,As5 r qs (l++ [c])];have:=(Gj r).2;cases hp:Bd r with
   |nil=>exact absurd hp this
   |cons p ps=>simp
theorem Aro(t:List UInt8):Vl t=Bd t:=by
 have h:=As5 t [] [];have h2:=(Gj t).2;unfold Vl;rw[show([[]]:List (List UInt8))= []++ [[]]from rfl,h];cases hp:Bd t with
 |nil=>exact absurd hp h2
 |cons p ps=>simp
theorem Aj4(l:List UInt8)(c:UInt8):Vl (l++ [c])=Sz (Vl l) c:=by simp[Vl]
end Go.Vam
namespace Go.Proofs
open Go.Lib Go.Proofs.Tryz Go.RowKit Go.Shelf Go.Sort Go.Vam
set_option maxHeartbeats 4000000 in
set_option maxRecDepth 100000 in
theorem Tryz.parts259(t:List UInt8)(ht:t.length≤1000)(w:World):
  Calls prog 51 #[.string ⟨t.toArray⟩] w fun e w'=>∃v,e= .returned v∧w'.ownsRow w.heap.size 9 1 v (Bd t).length ((Bd t).map encStr)∧Below w.heap.size w w':=by
 have hinf:((prog.info? 9).bind fun i=>i.zero.map fun z=>(i.size,z.cells.size,i.bytes))=some (1,1,16):=by kernel_rfl
 obtain⟨i0,hi,hinf⟩:=Option.bind_eq_some_iff.1 hinf;obtain⟨z,hz,hinf⟩:=Option.map_eq_some_iff.1 hinf;simp only[Prod.mk.injEq]at hinf;obtain⟨hs2,hz2,hb2⟩:=hinf;obtain⟨s,hs⟩:∃s:ByteArray,s=⟨t.toArray⟩:=⟨_,rfl⟩;rw[← hs];have hsz:s.size=t.length:=by rw[hs];simp[ByteArray.size]
 have hsg:∀(k:Nat) (h:k<s.size) (h':k<t.length),s[k]'h=t[k]:=fun k h h'=>by subst hs;rfl
 have hsx:∀(k:Nat) (h':k<t.length),(s.extract k (k+1)).data= #[t[k]]:=fun k h'=>by subst hs;simp[ByteArray.data_extract];rw[List.drop_eq_getElem_cons h'];rfl
 clear hs
 go_enter func51,ntmps51
 go_wp2
 go_loopw [3,4] (fun v i wr=>∃(k:Nat) (qs:List (List UInt8)) (l:List UInt8),i= .int .i64 k∧k≤t.length∧Vl (t.take k)=qs++ [l]∧qs.length≤k∧l.length≤k∧wr.ownsRow w.heap.size 9 1 v (qs.length+1) ((qs++ [l]).map encStr)∧Below w.heap.size w wr) (fun v i wr=>t.length - (intOf i).toNat)
 case atStart=>exact⟨0,[],[],rfl,Nat.zero_le _,rfl,Nat.le_refl _,Nat.le_refl _,⟨rfl,.inr ⟨w.heap.size,1,_,rfl,Nat.le_refl _,heap_alloc_new w _,Nat.le_refl _,by unfold maxLen;omega,rfl,rfl⟩⟩,(Below.refl _ _).alloc (Nat.le_refl _) _⟩
 case round=>
  obtain⟨k,qs,l,rfl,hk,hp,hql,hll,hown,hbw⟩:=hrel;have hbz:=hbw.size;have hcs:=hown.2;rcases hcs with⟨_,h0⟩|⟨g,cap,cur,rfl,hg1,hg2,hg3,hg4,hg5,hg6⟩
  ·omega
  by_cases hlt:k<t.length
  ·have hl:(k:Int)<t.length:=by omega
   have hks:k<s.size:=by omega
   have hkb:=hsg k hks hlt;have htk:t.take (k+1)=t.take k++ [t[k]]:=by rw[List.take_add_one,List.getElem?_eq_getElem hlt];rfl
   have hpn:Vl (t.take (k+1))=Sz (qs++ [l]) t[k]:=by rw[htk,Aj4,hp]
   by_cases hb:t[k]=47
   ·have hst:Sz (qs++ [l]) t[k]=(qs++ [l])++ [[]]:=by unfold Sz;rw[if_pos (by rw[hb];rfl)]
    have hbn:((t[k].toNat:Int))=47:=by rw[hb];rfl
    go_wp2_with (at_builtin;refine wpList_append_own _ rfl _ _ 23 rfl w.heap.size 9 i0 z 1 16 underlying23 hi hz hs2 hb2 hz2 (by decide) _ _ _ rfl (hown.alloc _) ⟨wr.heap.size,0,none⟩ 1 1 [.string ⟨#[]⟩] rfl ?c1 ?c2 ?c3 ?c4 ?c5 ?c6 ?_)
    case c1=>rfl
    case c2=>
     intro j u hj
     match j,hj with
     |0,hj=>simp at hj;subst hj;simp[Addr.add]
    case c3=>intro u hu;simp at hu;subst hu;rfl
    case c4=>unfold maxLen;omega
    case c5=>omega
    case c6=>simp;omega
    intro v' w' ho hg _
    go_wp2
    go_roundw
    case rel=>exact⟨k+1,qs++ [l],[],by go_num,by omega,by rw[hpn,hst],by simp;omega,by simp,by simpa[encStr]using ho,(hbw.alloc hbz _).trans ⟨hg.os,hg.tape,hg.output,hg.size,fun q hq=>hg.block q (by simp;omega) (fun e=>by simp[Value.ownBlock]at e;omega)⟩⟩
    case measure=>simp[intOf];omega
   ·have hst:Sz (qs++ [l]) t[k]=qs++ [l++ [t[k]]]:=Agx (by simpa using hb)
    have hbn:¬ ((t[k].toNat:Int))=47:=fun h=>hb (UInt8.toNat_inj.1 (by have:(47:UInt8).toNat=47:=rfl;omega))
    have hcell:wr.cell? ⟨g,qs.length,none⟩=some (.string ⟨l.toArray⟩):=by
     rw[hown.cellAt qs.length (by omega)]
     simp[encStr]
    have hfr:wr.frozen? ⟨g,qs.length,none⟩=false:=hown.frozenAt _;have hls:(⟨l.toArray⟩:ByteArray).size=l.length:=by simp[ByteArray.size]
    have hstr:=hown.stored qs.length (encStr (l++ [t[k]]));have hk1:k+1≤t.length:=by omega
    have hk2:(k:Int)+1≤(t.length:Int):=by omega
    have hcat:(⟨l.toArray⟩:ByteArray)++s.extract k (k+1)=⟨(l++ [t[k]]).toArray⟩:=by apply ByteArray.ext;rw[ByteArray.data_append,hsx k hlt];simp
    have hset:(((qs++ [l]).map encStr).set qs.length (encStr (l++ [t[k]])))=(qs++ [l++ [t[k]]]).map encStr:=by
     rw[List.map_append,List.set_append_right _ _ (by simp)]
     simp
    obtain⟨ho,hgr⟩:=hstr;rw[hset]at ho;have hB2:=hbw.trans ⟨hgr.os,hgr.tape,hgr.output,hgr.size,fun q hq=>hgr.block q (by omega) (fun e=>by simp at e;omega)⟩
    clear hset hgr
    go_wp2
    go_region
    go_wp2
    go_roundw
    case rel=>exact⟨k+1,qs,l++ [t[k]],by go_num,by omega,by rw[hpn,hst],by omega,by simp;omega,ho.drew,hB2.drew⟩
    case measure=>simp[intOf];omega
  ·have hke:k=t.length:=by omega
   subst hke;rw[List.take_length,Aro]at hp
   go_wp2
   go_ret
   rw[hp];exact⟨_,rfl,by simpa using hown,hbw⟩
end Go.Proofs
namespace Go.Vam
open Go.Proofs Go.Proofs.Tryz Go.RowKit
section
variable{g:G}{st:St}{w w':World}
theorem Co.addRowAt(hs:Co g st w){A:Array Value}{T:TypeId}{fr:Nat × Nat}{c:Nat}(hc:w.heap.size≤c)(hh:w'.heap[c]?=some (.cells A T fr))(hsz:w.heap.size≤w'.heap.size)
  (hold:∀b,b<w.heap.size→w'.heap[b]?=w.heap[b]?)(hos:w'.os=w.os)(hout:w'.output=w.output):
  Co (g.addI c A) st w'∧Step g st w [] (g.addI c A) st w':=by
 have hI0:∀p,g.I c p=none:=fun p=>by
  cases hp:g.I c p with
  |none=>rfl
  |some v=>
   have:=hs.imm _ _ _ hp;unfold World.cell? at this;rw[show w.heap[c]?=none from by simp;omega]at this
   simp at this
 have hm:Gd g (g.addI c A):=by
  refine⟨fun i c h=>⟨h,rfl⟩,fun b o v h=>?_,fun _ k h=>⟨k,h,Nat.le_refl _,fun _=>rfl⟩,rfl⟩;simp only[G.addI];split
  ·rename_i hb;subst hb;rw[hI0]at h;cases h
  ·exact h
 refine hs.grow hm hsz hold (fun _ _ h=>h) ?_ (fun _ _ h=> .inl h) (fun _ _ h=> .inl h) ?_ hos hout
 ·intro b o v h;simp only[G.addI]at h;split at h
  ·rename_i hb;subst hb;refine .inr ⟨hc,?_⟩;simp[World.cell?,hh,h]
  ·exact .inl h
 ·intro i i' b hb h h';have:Own g st i b:=h;exact absurd (hs.own_lt this) (by omega)
end
def Sb:Bz:=fun _ args st=>match args with
 | [.str t]=>if t.length≤1000 then some (.sl (Lf (Bd t)) .none,st,[])else none
 |_=>none
theorem Adb(cf:Ah):Ba (Sb cf):=Gl (fun cf args st v st' W h=>by
 unfold Sb at h;split at h
 case h_2=>cases h
 split at h
 case isFalse=>cases h
 cases h;rfl) cf
theorem Aew{β:Nat→Nat→Option Value}(cf:Ah):Ji prog β 51 (Sb cf):=by
 intro args st v st' W h g w A hb hs hA;unfold Sb at h;split at h
 case h_2=>cases h
 rename_i t;split at h
 case isFalse=>cases h
 rename_i hl;cases h;obtain⟨v0,rfl⟩:=K9 (A:=A) (by simpa using hA.size)
 have hv0:VR g (.str t) v0:=hA.at_ 0 _ _ rfl rfl;rw[C9 hv0];refine(Tryz.parts259 t hl w).mono ?_;rintro e w' ⟨v,rfl,ho,hB⟩;obtain⟨hlen,ho⟩:=ho;have hne:=(Gj t).2;rcases ho with⟨_,h0⟩|⟨c,cap,cur,rfl,h1,h2,h3,h4,h5,h6⟩
 ·exact absurd (List.eq_nil_of_length_eq_zero h0) hne
 obtain⟨q1,q2⟩:=hs.addRowAt h1 h2 hB.size hB.block hB.os hB.output;refine⟨_,_,rfl,?_,q1,q2,Dx.refl _ _⟩;have:=VR.slOf (g:=g.addI c cur) (rows:=Lf (Bd t)) (gr:= .none) (c:=c) (o:=0) (sz:=1) (cap:=cap) (fun r hr=>by
   unfold Lf at hr;obtain⟨t,_,rfl⟩:=List.mem_map.1 hr;rfl) (fun j d hj=>by
   have hfl:(Lf (Bd t)).flatten=(Bd t).map D.str:=by
    unfold Lf;induction Bd t with
    |nil=>rfl
    |cons a l ih=>simp[ih]
   rw[hfl,List.getElem?_map,Option.map_eq_some_iff]at hj;obtain⟨u,hu,rfl⟩:=hj;refine⟨.string ⟨u.toArray⟩,?_,VR.str ⟨u.toArray⟩⟩;have hx:((Bd t).map encStr)[j]?=some (.string ⟨u.toArray⟩):=by simp[hu,encStr]
   rw[← h6,List.getElem?_take]at hx;split at hx
   ·simpa[G.addI]using hx
   ·cases hx) (by simpa[Lf]using h3) trivial
 simpa[Lf]using this
theorem Bhj(x0 x1:D):Hd C1 6 Tryz.f6 (bd Tryz.f6) [] [.dyn x0,.dyn x1] []=
 .bind (.ln 9 x0) fun x2=>
 .bind (.mn x2 [x1]) fun x3=>
 .bind (.slc 9 x0 none (some x3) none) fun x4=>
 .leaf [x4] []:=by kernel_rfl
section
variable{cf:Ah}{N:Nat}(hK:∀f,Ba (cf f))
include hK in
theorem A4e(t:List UInt8)(hN:1000<N)(h259:t.length≤1000→Ao cf 51 [.str t] (.sl (Lf (Bd t)) .none))(h115:∀b:UInt8,Ao cf 52 [.int .u8 (b.toNat:Int)] (.bool (Ig b))):Ao (run C1 cf N) 20 [.str t] (.bool (Aan t)):=by
 refine Cg hK func20 bdy rfl rfl rfl (Bc8 _) ?_;have h0:(decide (t.length<1) || (decide (40<t.length) || kwB t))=true→Aan t=false:=fun h=>by
  unfold Aan;simp only[Bool.or_eq_true,decide_eq_true_eq]at h;rcases h with h|h|h
  ·have:t= []:=List.eq_nil_of_length_eq_zero (by omega)
   subst this;rfl
  ·rw[show decide (t.length≤40)=false from decide_eq_false (by omega)]
   simp
  ·rw[h];rfl
 refine Nc (d:= .bool (decide (t.length<1) || (decide (40<t.length) || kwB t))) (fun LQ' h=>?_) ?_
 ·simp only[Aa,Fa,Da,Jt,Di,Ac,Ab];rw[show decide ((t.length:Int)<1)=decide (t.length<1)from by simp only[decide_eq_decide];omega,show decide ((40:Int)<(t.length:Int))=decide (40<t.length)from by simp only[decide_eq_decide];omega]
  unfold kwB at h;generalize decide (t.length<1)=c1 at h ⊢;generalize decide (40<t.length)=c2 at h ⊢;generalize(t == [114,117,108,101])=c3 at h ⊢;generalize(t == [105,110])=c4 at h ⊢;generalize(t == [111,117,116])=c5 at h ⊢;generalize(t == [97,102,116,101,114])=c6 at h ⊢;cases c1<;>cases c2<;>cases c3<;>cases c4<;>cases c5<;>exact h
 simp only[Ac];cases hc:(decide (t.length<1) || (decide (40<t.length) || kwB t))with
 |true=>simp only[if_true,Ab];rw[h0 hc];exact Bf rfl
 |false=>
 simp only[Bool.or_eq_false_iff,decide_eq_false_iff_not]at hc;have hR:Aan t=!(Bd t).any Cz:=by
  unfold Aan;rw[hc.2.2,show decide (t.length≤40)=true from decide_eq_true (by omega)]
  simp
 rw[hR];simp only[BF];refine Aw rfl (h259 (by omega)) ?_
 have hmem:=fun p b=>Ni t p b;have hll:=(Gj t).1;have hpl:∀p∈Bd t,p.length≤t.length:=by
  clear h0 hR hmem hll h259 hc;induction t with
  |nil=>intro p hp;simp[Bd]at hp;simp[hp]
  |cons c r ih=>
   intro p hp;unfold Bd at hp;split at hp
   ·rcases List.mem_cons.1 hp with rfl|hp
    ·simp
    ·have:=ih p hp;simp only[List.length_cons];omega
   ·split at hp
    ·rename_i h1;exact absurd h1 (Gj r).2
    ·rename_i q qs h1;rcases List.mem_cons.1 hp with rfl|hp
     ·have:=ih q (by rw[h1];simp)
      simp only[List.length_cons];omega
     ·have:=ih p (by rw[h1];simp[hp])
      simp only[List.length_cons];omega
 generalize Bd t=l at hll hpl ⊢;refine wp_loop (fun m a ds=>a=0∧∃(i:Nat) (x:D),ds= [x,.int .i64 (i:Int)]∧i≤l.length∧m=l.length - i∧∀j,(h:j<l.length)→j<i→Cz l[j]=false) l.length (by omega) ⟨rfl,0,_,rfl,Nat.zero_le _,rfl,fun j _ hj=>absurd hj (Nat.not_lt_zero j)⟩ ?_
 rintro m a ds ⟨rfl,i,x,rfl,hi,rfl,hno⟩;simp only[Ca,hv,tails,List.tail_cons,List.headD_cons,Aa,Ahm,Da,Vz,Ac];by_cases hlt:i<l.length
 ·have hu:l[i]?=some l[i]:=List.getElem?_eq_getElem hlt;have hm1:l[i]∈l:=List.getElem_mem hlt;have hb1:Cz l[i]=Cz l[i]:=rfl;have hbad:Cz l[i]=true→l.any Cz=true:=fun h=>List.any_eq_true.2 ⟨_,hm1,h⟩;have hp40:=hpl _ hm1;generalize hg:l[i]=p at hu hbad hp40;simp only[hlt,decide_true,if_true];refine Nc (d:= .bool (At4 p)) (fun LQ' h=>?_) ?_
  ·simp only[Aa,Yc hu,Tc,Di,Ac,Ab];unfold At4 at h;generalize(p == [])=c1 at h ⊢;generalize(p == [46])=c2 at h ⊢;generalize(p == [46,46])=c3 at h ⊢;cases c1<;>cases c2<;>exact h
  simp only[Ac];cases hd:At4 p with
  |true=>
   simp only[if_true,Ab];rw[hbad (by unfold Cz;rw[hd];rfl)]
   exact Bf rfl
  |false=>
   simp only[BF];refine wp_loop (fun m a ds=>a=0∧∃(j:Nat) (x:D),ds= [x,.int .i64 (j:Int)]∧j≤p.length∧m=p.length - j∧∀k,(h:k<p.length)→k<j→Ig p[k]=true) p.length (by omega) ⟨rfl,0,_,rfl,Nat.zero_le _,rfl,fun j _ hj=>absurd hj (Nat.not_lt_zero j)⟩ ?_
   rintro m a ds ⟨rfl,j,x2,rfl,hj,rfl,hsg⟩;simp only[Ca,List.tail_cons,List.headD_cons,Aa,Yc hu,Tc,Fa,Da,Vz,Ac];by_cases hlj:j<p.length
   ·have hbj:p[j]?=some p[j]:=List.getElem?_eq_getElem hlj;have hmj:p[j]∈p:=List.getElem_mem hlj;have hsj:Ig p[j]=Ig p[j]:=rfl;generalize hgj:p[j]=b at hbj hmj;simp only[hlj,decide_true,if_true,D5 hbj];refine Aw rfl (h115 b) ?_;simp only[Aa,K5,Ac];cases hs:Ig b with
    |false=>
     simp only[Bool.not_false,if_true,Ab];rw[hbad (by unfold Cz;rw[Bool.or_eq_true];exact .inr (List.any_eq_true.2 ⟨b,hmj,by rw[hs];rfl⟩))]
     exact Bf rfl
    |true=>
     simp only[Bool.not_true,BF,Bt,wrapN (show j<1000000 by omega),Az]
     refine⟨_,?_,rfl,j+1,x2,rfl,hlj,rfl,fun k hkl hk=>?_⟩
     ·omega
     ·rcases Nat.lt_or_ge k j with h|h
      ·exact hsg k hkl h
      ·have:k=j:=by omega
       subst this;rw[hgj,hs]
   ·simp only[hlj,decide_false,BF,Bt,wrapN (show i<1000000 by omega),Az]
    refine⟨_,?_,rfl,i+1,x2,rfl,hlt,rfl,fun k hkl hk=>?_⟩
    ·omega
    ·rcases Nat.lt_or_ge k i with h|h
     ·exact hno k hkl h
     ·have:k=i:=by omega
      subst this;rw[hg];unfold Cz;rw[hd,Bool.false_or,List.any_eq_false];intro b hb;obtain⟨q,hq,rfl⟩:=List.mem_iff_getElem.1 hb;rw[hsg q hq (by omega)]
      simp
 ·simp only[hlt,decide_false,BF,Ab];have:l.any Cz=false:=by
   rw[List.any_eq_false];intro u hu;obtain⟨j,hj,rfl⟩:=List.mem_iff_getElem.1 hu;rw[hno j hj (by omega)]
   simp
  rw[this];exact Bf rfl
include hK in
theorem A8a(s:List UInt8)(n:Nat):Ao (run C1 cf N) 6 [.str s,.int .i64 (n:Int)] (.str (s.take n)):=by
 refine Cg hK func6 bdy rfl rfl rfl (Bhj _ _) ?_;simp only[Aa,Fa,Bhi];have hmn:(if(n:Int)<(s.length:Int)then(n:Int)else(s.length:Int))=((min n s.length:Nat):Int):=by split<;>omega
 rw[hmn];have hsl:(Av.slc 9 (.str s) none (some (.int .i64 ((min n s.length:Nat):Int))) none).sem prog=some (.str (s.take n)):=by
  have hn:∀i:Nat,E5 (.int .i64 (i:Int))=some i:=fun i=>by simp[E5]
  have:s.take (min n s.length)=s.take n:=by rw[List.take_eq_take_iff];omega
  simp[Av.sem,Aes,hn,Lu,Et,this,Nat.min_le_right]
 rw[hsl];simp only[Ab];exact Bf rfl
end
theorem B2r{P:Program}{β:Nat→Nat→Option Value}{f:FuncId}{c:List D→St→Res}(hj:Ji P β f c){args:List D}{k o:Nat}{st2:St}{W2:Cb}(h:c args []=some (.ptr k o,st2,W2))(ha:F6 0 args=false):
  Akr P β f args (.eptr []):=by
 intro st g w A hb hs hA;have hA0:F8 (g.cut 0) args A:=⟨hA.size,fun j d x h1 h2=>(hA.at_ j d x h1 h2).cut (Fv.1 ha j d h1)⟩;refine(hj args [] _ st2 W2 h (g.cut 0) w A hb (A2s hs) hA0).mono ?_;rintro e w' ⟨r,g1,rfl,h1,h2,h3,h4⟩;have hno:∀id b,¬ Own (g.cut 0) [] id b:=by rintro id b (⟨h,_⟩|⟨k,h,_⟩)<;>simp[G.cut]at h
 have:=hs.still h3.size (fun b hb=>h3.fr b hb fun id _=>hno id b) h3.os h3.out;cases h1;exact⟨_,g,rfl,.eptr (fun j d h=>by cases h) (fun j d v h=>by cases h),this.1,this.2,Dx.refl _ _⟩
def Bpl:List (List D × D):= [([.int .u64 0],.int .i64 0),([.int .u64 1],.int .i64 1)]
def Bta:List (List D × D):= [([.sl [] .none],.eptr [])]
def B27:Bool:=match Zv C1 (Aof [] []) 2000 60 10 [.sl [] .none] (Yn [])with
 | .ok (.ptr _ _) _ _=>true
 |_=>false
theorem B17:B27=true:=by kernel_rfl
theorem B1x:Bpl.all (Ll [] [] 20 67)=true:=by kernel_rfl
variable{β:Nat→Nat→Option Value}
theorem Bwj(hM:I6 β):∀r∈Bpl,Akr prog β 67 r.1 r.2:=
 Ej hM Cc An0 B1x (67,Bpl) (by simp)
theorem Bwc(hM:I6 β):∀r∈Bta,Akr prog β 10 r.1 r.2:=fun r hr=>by
 rw[show r=([.sl [] .none],.eptr [])from by simpa[Bta]using hr]
 have h:=B17;unfold B27 at h;split at h
 ·rename_i k o s W hc;exact B2r ((Aq5 (Ao9 hM Cc An0) 2000 60).just 10) (S9 (Alk [] []) (st:= []) hc) rfl
 ·cases h
section
open Go.RowKit
def Bqb:Bz:=fun _ args st=>match args with
 | [.int .i64 (.ofNat n)]=>if n<2 ^ 62 then some (.str (P7 n),st,[])else none
 |_=>none
theorem Bsu(cf:Ah):Ba (Bqb cf):=Gl (fun cf args st v st' W h=>by
 unfold Bqb at h;split at h
 case h_2=>cases h
 split at h
 case isFalse=>cases h
 cases h;rfl) cf
theorem Bs0{β:Nat→Nat→Option Value}(hT:Aw0 β)(cf:Ah):Ji prog β 49 (Bqb cf):=by
 intro args st v st' W h g w A hb hs hA;unfold Bqb at h;split at h
 case h_2=>cases h
 rename_i n;split at h
 case isFalse=>cases h
 rename_i hn;cases h;obtain⟨v0,rfl⟩:=K9 (A:=A) (by simpa using hA.size)
 have hv0:VR g (.int .i64 (.ofNat n)) v0:=hA.at_ 0 _ _ rfl rfl;cases hv0;refine(Tryz.number37 n hn w (hT g st w hb hs)).mono ?_;rintro e w' ⟨rfl,hf⟩;obtain⟨h4,h5⟩:=Xi hs hf;exact⟨_,g,rfl,VR.str ⟨(P7 n).toArray⟩,h4,h5,Dx.refl _ _⟩
end
def Rv:FuncId→Option Bz:=fun f=>
 if f=5 then some (Im Np)else if f=159 then some Ew else if f=226 then some Sg else if f=51 then some Sb
 else if f=234 then some Ads else if f=236 then some Ru else if f=49 then some Bqb else if f=62 then some Kg else if f=67 then some (Im Bpl)else if f=10 then some (Im Bta)else none
theorem Asm{β:Nat→Nat→Option Value}(hM:I6 β)(hT:Aw0 β)(hE:A6b β):Ww C1 β Rv:=by
 have h9:∀r∈Np,Akr prog β 5 r.1 r.2:=A1r hM (5,Np) (by simp[A4f])
 refine⟨fun f nt h cf hX=>?_,fun f nt h cf hk=>?_⟩
 ·unfold Rv at h;split at h
  ·rename_i hf;cases h;rw[hf];exact Qg h9 cf
  split at h
  ·rename_i hf;cases h;rw[hf];exact N8 cf
  split at h
  ·rename_i hf;cases h;rw[hf];exact Aep hM cf
  split at h
  ·rename_i hf;cases h;rw[hf];exact Aew cf
  split at h
  ·rename_i hf;cases h;rw[hf];exact Ak9 hT hE cf
  split at h
  ·rename_i hf;cases h;rw[hf];exact Ae5 cf
  split at h
  ·rename_i hf;cases h;rw[hf];exact Bs0 hT cf
  split at h
  ·rename_i hf;cases h;rw[hf];exact Ab4 (C:=C1) rfl cf hX
  split at h
  ·rename_i hf;cases h;rw[hf];exact Qg (Bwj hM) cf
  split at h
  ·rename_i hf;cases h;rw[hf];exact Qg (Bwc hM) cf
  ·cases h
 ·unfold Rv at h;split at h
  ·cases h;exact Ou cf
  split at h
  ·cases h;exact Nl cf
  split at h
  ·cases h;exact Adz cf
  split at h
  ·cases h;exact Adb cf
  split at h
  ·cases h;exact Ahn cf
  split at h
  ·cases h;exact Adf cf
  split at h
  ·cases h;exact Bsu cf
  split at h
  ·cases h;exact Aal cf
  split at h
  ·cases h;exact Ou cf
  split at h
  ·cases h;exact Ou cf
  ·cases h
noncomputable abbrev CF(n:Nat):Ah:=Ii C1 Rv 2000 n
variable{n:Nat}
theorem pS{f:FuncId}{xs:List D}{v:D}(h:Rv f=none)(hp:Ao (run C1 (CF n) 2000) f xs v):Ao (CF (n+1)) f xs v:=fun st=>by rw[show CF (n+1) f xs st=run C1 (CF n) 2000 f xs st from Qd h];exact hp st
theorem mS{f:FuncId}{xs:List (Option D)}{cs cs':List D}{v:D}(h:Rv f=none)(hp:Acn (run C1 (CF n) 2000) f xs cs v cs'):Acn (CF (n+1)) f xs cs v cs':=fun st id hi=>by obtain⟨W,h1,h2⟩:=hp st id hi;exact⟨W,(Qd h).trans h1,h2⟩
theorem Ark{f:FuncId}{g:Bz}{xs:List D}{v:D}(h:Rv f=some g)(hv:∀cf st,g cf xs st=some (v,st,[])):Ao (CF (n+1)) f xs v:=fun st=>by
 show(match Rv f with|some g=>g (CF n) xs st|none=>run C1 (CF n) 2000 f xs st)=_
 rw[h];exact hv _ _
theorem Aku(b:UInt8):∀(l:List UInt8) (i:Nat),Ahz b l i=match l.findIdx? (· == b)with
  |some j=>((i+j:Nat):Int)
  |none=> -1
 | [],i=>rfl
 |x::l,i=>by
  unfold Ahz;rw[List.findIdx?_cons];have hb:Nat.beq x.toNat b.toNat=(x == b):=by rw[Bool.eq_iff_iff,Nat.beq_eq,beq_iff_eq,UInt8.toNat_inj]
  rw[hb];cases x == b with
  |true=>simp
  |false=>
   simp only[BF];rw[Aku b l (i+1)];cases l.findIdx? (· == b)with
   |none=>rfl
   |some j=>show((i+1+j:Nat):Int)=((i+(j+1):Nat):Int);omega
section
variable(hK:∀n f,Ba (CF n f))
theorem Bh4(n:Nat)(t:List UInt8)(b:UInt8):Ao (CF (n+1)) 159 [.str t,.int .u8 (b.toNat:Int)] (.int .i64 (Gv t b)):=Ark rfl fun cf st=>by
 show some (D.int .i64 (Ahz (byteOf (b.toNat:Int)) t 0),st,([]:Cb))=_;rw[show byteOf (b.toNat:Int)=b from by simp[byteOf],Aku]
 unfold Gv;cases t.findIdx? (· == b)<;>simp
include hK
theorem Bbb(n:Nat)(t:List UInt8)(b:UInt8):Ao (CF (n+2)) 102 [.str t,.int .u8 (b.toNat:Int)] (.int .i64 (Gv t b)):=pS rfl (by refine Cg (hK (n+1)) func102 bdy rfl rfl rfl (Bdk _ _) ?_;refine Aw rfl (Bh4 n t b) ?_;simp only[Ab];exact Bf rfl)
theorem a66(n:Nat)(s:List UInt8)(i:Nat)(hi:i≤s.length)(hs:s.length<900):Ao (CF (n+3)) 53 [.str s,.int .i64 (i:Int)] (.int .i64 ((i+Db false (s.drop i):Nat):Int)):=
 pS rfl (Bb4 (hK _) (Bbb hK n) s i hi (by omega) (by decide))
theorem Bgi(n:Nat)(b:UInt8):Ao (CF (n+1)) 103 [.int .u8 (b.toNat:Int)] (.bool (De b)):=pS rfl (A5b (hK _) b)
theorem a182(n:Nat)(t:List UInt8)(ht:t.length<1000):Ao (CF (n+3)) 160 [.str t] (Ai6 (Ht t)):=pS rfl (Azl (hK _) (Bbb hK n) t ht)
theorem Bgx(n:Nat)(s:List UInt8)(i:Nat)(hi:i≤s.length)(hs:s.length<900):Ao (CF (n+4)) 104 [.str s,.int .i64 (i:Int)] (txD ((Dv (s.length - i+1) (s.drop i)).map fun p=>(p.1,i+p.2))):=
 pS rfl (Ayd (hK _) (a182 hK n) s i hi hs (by decide))
theorem a67(n:Nat)(s:List UInt8)(i:Nat)(hi:i<s.length)(hs:s.length<900):∃v,WdV s i v∧Ao (CF (n+5)) 54 [.str s,.int .i64 (i:Int)] v:=by
 obtain⟨v,h1,h2⟩:=A62 (N:=2000) (hK _) (Bbb hK (n+2)) (Bgi hK (n+3)) (Bgx hK n) s i hi hs (by decide)
 exact⟨v,h1,pS rfl h2⟩
theorem a29(n:Nat)(s:List UInt8)(hs:s.length<900):Ao (CF (n+6)) 23 [.str s] (Uy s.length (Y8 s)):=pS rfl (Bbd (hK _) (a66 hK (n+2)) (a67 hK n) s hs (by decide))
omit hK in
theorem Bgk(n:Nat)(t:List UInt8)(ht:t.length≤1000):Ao (CF (n+1)) 226 [.str t,.str [47]] (.sl (Lf (Bd t)) .none):=Ark rfl fun cf st=>by show(if t.length<4294967281 then some (D.sl (Lf (Bd t)) .none,st,([]:Cb))else none)=_;rw[if_pos (by omega)]
theorem a229(n:Nat)(t:List UInt8)(ht:t.length≤1000):Ao (CF (n+2)) 203 [.str t] (.sl (Lf (Bd t)) .none):=pS rfl (Ayk (hK _) t (Bgk n t ht))
omit hK in
theorem Anu{b:UInt8}(h:De b=true):b.toNat<128:=by have:=(Ag9 b).1 h;omega
omit hK in
theorem Bik(n:Nat)(p:List UInt8)(hp:∀b∈p,b.toNat<128):Ao (CF (n+1)) 236 [.str p,.func 237 [] []] (.bool (p.any fun b=>!Ig b)):=Ark rfl fun cf st=>by show(if p.all (fun b=>decide (b.toNat<128))then some (D.bool (p.any fun b=>!Air b.toNat),st,([]:Cb))else none)=_;rw[if_pos (List.all_eq_true.2 fun b hb=>decide_eq_true (hp b hb))];congr 3;congr 1;funext b;rw[Axc]
theorem Bih(n:Nat)(p:List UInt8)(hp:∀b∈p,b.toNat<128):Ao (CF (n+2)) 204 [.str p] (.bool (Cz p)):=pS rfl (Ayy (hK _) p (Bik n p hp))
theorem Bh9(n:Nat)(t:List UInt8)(ht:Lt t):Ao (CF (n+3)) 140 [.sl (Lf (Bd t)) .none,.func 204 [] []] (.int .i64 (Aid (Bd t) Cz)):=
 pS rfl (A1v (hK _) _ _ (by have:=(Gj t).1;have:=ht.1;omega) (by decide) fun p hp=>Bih hK n p fun b hb=>Anu (ht.2 b (Ni t p b hp hb)))
theorem a131(n:Nat)(t:List UInt8)(ht:Lt t):Ao (CF (n+4)) 111 [.sl (Lf (Bd t)) .none,.func 204 [] []] (.bool ((Bd t).any Cz)):=pS rfl (Ayu (hK _) _ _ (Bh9 hK n t ht))
theorem Bib(n:Nat)(t:List UInt8)(ht:Lt t):Ao (CF (n+5)) 163 [.str t] (.bool (Aan t)):=pS rfl (A4m (hK _) t (a229 hK (n+2) t ht.1) (a131 hK n t ht))
theorem a183(n:Nat):Ao (CF (n+1)) 161 [] (.sl (Lf Bl) .none):=pS rfl (A3w (hK _))
theorem Bh3(n:Nat)(l:List (List UInt8))(hl:l.length<1000)(g:Gr)(t:List UInt8):Ao (CF (n+1)) 64 [.sl (Lf l) g,.str t] (.int .i64 (Ja l t)):=pS rfl (Azg (hK _) l g t hl (by decide))
theorem a56(n:Nat)(l:List (List UInt8))(hl:l.length<1000)(t:List UInt8):Ao (CF (n+2)) 36 [.sl (Lf l) .none,.str t] (.bool (l.contains t)):=pS rfl (Bbj (hK _) l _ t (Bh3 hK n l hl .none t))
def nmP(t:List UInt8):Bool:=Aan t && (!(t == [45]) && !Bl.contains t)
theorem a127(n:Nat)(t:List UInt8)(ht:Lt t):Ao (CF (n+6)) 108 [.str t] (.bool (nmP t)):=pS rfl (A2n (hK _) t Aan (Bib hK n t ht) (a183 hK (n+4)) (a56 hK (n+3) Bl (by decide) t))
def gnP(t:List UInt8):Int × Bool:=grN t 1000
omit hK in
theorem Bey(n:Nat)(t:List UInt8)(ht:t.length≤1000):Ao (CF (n+1)) 234 [.str t,.int .i64 1000] (.tup [.int .i64 (gnP t).1,.bool (gnP t).2]):=Ark rfl fun cf st=>by
 show(if t.length≤1000∧(0:Int)≤1000∧(1000:Int)<2 ^ 62 then some (D.tup [.int .i64 (grN t 1000).1,.bool (grN t 1000).2],st,([]:Cb))else none)=_;rw[if_pos ⟨ht,by decide,by decide⟩]
 rfl
theorem Bg8(n:Nat)(t:List UInt8)(ht:t.length≤1000):Ao (CF (n+2)) 233 [.str t] (.bool (gnP t).2):=pS rfl (A03 (hK _) t gnP (Bey n t ht))
variable(L:Nat)
theorem j68(n:Nat)(s:PS)(K:Int)(tx:List UInt8):E9 (CF (n+1)) 55 [.int .i64 K,.str tx] L s (.bool (Ry L s K tx)) s:=mS rfl (A8q (hK _) s K tx)
theorem j31(n:Nat)(s:PS):E9 (CF (n+1)) 25 [] L s (.tup []) (Hf L s):=mS rfl (Bbn (hK _) s)
theorem j70(n:Nat)(s:PS)(K:Int)(tx:List UInt8)(h:K≠4):E9 (CF (n+2)) 57 [.int .i64 K,.str tx] L s (.tup []) (A8 L s K tx):=mS rfl (Bca (hK _) (j68 hK L n) (j31 hK L n) s K tx h)
theorem j72(n:Nat)(s:PS)(tx:List UInt8):E9 (CF (n+3)) 59 [.str tx] L s (.tup []) (A8 L s 3 tx):=mS rfl (Bb2 (hK _) (j70 hK L n) s tx)
theorem Bfq(n:Nat)(s:PS)(hS:Sm s):E9 (CF (n+7)) 107 [.int .i64 1,.func 108 [] []] L s (.str (Bb L s 1 nmP).1) (Bb L s 1 nmP).2:=
 mS rfl (Abb (hK _) (j31 hK L (n+5)) s hS 1 (by decide) 108 nmP Bcu fun t ht=>a127 hK n t (ht rfl))
theorem Bev(n:Nat)(s:PS)(hS:Sm s):E9 (CF (n+2)) 107 [.int .i64 1,.func 235 [] []] L s (.str (Bb L s 1 Jd).1) (Bb L s 1 Jd).2:=
 mS rfl (Abb (hK _) (j31 hK L n) s hS 1 (by decide) 235 Jd A8p fun t ht=>pS rfl (A5n (hK _) t))
theorem Bfw(n:Nat)(s:PS)(hS:Sm s):E9 (CF (n+3)) 107 [.int .i64 1,.func 233 [] []] L s (.str (Bb L s 1 (fun t=>(gnP t).2)).1) (Bb L s 1 (fun t=>(gnP t).2)).2:=
 mS rfl (Abb (hK _) (j31 hK L (n+1)) s hS 1 (by decide) 233 (fun t=>(gnP t).2) A8u fun t ht=>Bg8 hK n t (ht rfl).1)
theorem Bec(n:Nat)(s:PS)(hS:Sm s):E9 (CF (n+2)) 107 [.int .i64 2,.func 202 [] []] L s (.str (Bb L s 2 (fun _=>true)).1) (Bb L s 2 (fun _=>true)).2:=
 mS rfl (Abb (hK _) (j31 hK L n) s hS 2 (by decide) 202 (fun _=>true) A7c fun t ht=>pS rfl (A1x (hK _) t))
theorem j71(n:Nat)(s:PS)(hS:Sm s):E9 (CF (n+8)) 58 [] L s (.str (Bb L s 1 nmP).1) (Bb L s 1 nmP).2:=mS rfl (Bay (hK _) (Bfq hK L n) s hS)
theorem Bg4(n:Nat)(s:PS)(hS:Sm s):E9 (CF (n+3)) 201 [] L s (.str (Bb L s 1 Jd).1) (Bb L s 1 Jd).2:=mS rfl (A5i (hK _) (Bev hK L n) s hS)
theorem Bgq(n:Nat)(s:PS)(hS:Sm s):E9 (CF (n+4)) 200 [] L s (.int .i64 (Zk L gnP s).1) (Zk L gnP s).2:=mS rfl (Azo (hK _) (Bfw hK L n) s hS fun t ht=>Bey (n+2) t ht.1)
theorem Bgy(n:Nat)(s:PS):E9 (CF (n+2)) 106 [] L s (.int .i64 (Hz L s)) s:=mS rfl (A3t (hK _) (j68 hK L n) s)
theorem Adj:∀n m:Nat,Wv (CF (m+n+9)) 24 [] L (Fe L nmP gnP n)∧Wv (CF (m+n+9)) 56 [] L (Uv L nmP gnP n)∧Wv (CF (m+n+9)) 105 [] L (Jv L nmP gnP n)∧(∀(s:PS) (x:Qy) (s':PS),Sm s→Ij L s=true→Py L nmP gnP n s (Cn L s.ws).at_=some (x,s')→E9 (CF (m+n+9)) 162 [.int .i64 ((Cn L s.ws).at_:Int)] L s (.agg (Br x)) s')
 |0,m=>⟨fun s x s' _ h=>by simp[Fe]at h,fun s x s' _ h=>by simp[Uv]at h,fun s x s' _ h=>by simp[Jv]at h,fun s x s' _ _ h=>by simp[Py]at h⟩
 |n+1,m=>by
  obtain⟨h1,h2,h3,h4⟩:=Adj n m;obtain⟨g1,g2,g3,g4⟩:=Axi (L:=L) (may:=nmP) (gn:=gnP) n;have e:m+(n+1)+9=(m+n+9)+1:=by omega
  rw[e];refine⟨fun s x s' hS h=>?_,fun s x s' hS h=>?_,fun s x s' hS h=>?_,fun s x s' hS hc h=>?_⟩
  ·unfold Fe at h;exact mS rfl (A65 (hK _) (j68 hK L (m+n+8)) (j70 hK L (m+n+7)) (j72 hK L (m+n+6)) (j71 hK L (m+n+1)) h1 h2 g1 s hS x s' h)
  ·unfold Uv at h;exact mS rfl (A8h (hK _) (Bgy hK L (m+n+7)) h3 g3 1900 (by decide) s hS x s' h)
  ·unfold Jv at h;exact mS rfl (Ayo (hK _) (j68 hK L (m+n+8)) (j72 hK L (m+n+6)) (j71 hK L (m+n+1)) (c:=fun s=>Py L nmP gnP n s (Cn L s.ws).at_) h1 h4 (a183 hK (m+n+8)) (fun t _=>a56 hK (m+n+7) Bl.tail (by decide) t) g1 s hS x s' h)
  ·unfold Py at h;split at h
   ·cases h
   rename_i y s1 hy;cases h;exact mS rfl (A4t (hK _) (j68 hK L (m+n+8)) (j72 hK L (m+n+6)) (Bg4 hK L (m+n+6)) (Bgq hK L (m+n+5)) (Bec hK L (m+n+7)) h1 g1 s hS hc _ x s1 hy)
end
section
variable(hK:∀n f,Ba (CF n f))
include hK
theorem Bft(n:Nat)(b:UInt8):Ao (CF (n+1)) 52 [.int .u8 (b.toNat:Int)] (.bool (Ig b)):=pS rfl (A2i (hK _) b)
omit hK in
theorem Bh5(n:Nat)(t:List UInt8)(ht:t.length≤1000):Ao (CF (n+1)) 51 [.str t] (.sl (Lf (Bd t)) .none):=Ark rfl fun cf st=>by show(if t.length≤1000 then some (D.sl (Lf (Bd t)) .none,st,([]:Cb))else none)=_;rw[if_pos ht]
theorem Bhf(n:Nat)(t:List UInt8):Ao (CF (n+2)) 20 [.str t] (.bool (Aan t)):=pS rfl (A4e (hK _) t (by decide) (Bh5 n t) (Bft hK n))
theorem Bfd(n:Nat):Ao (CF (n+1)) 22 [] (.sl (Lf Bl) .none):=pS rfl (A3u (hK _))
theorem Bdg(n:Nat)(t:List UInt8):Ao (CF (n+1)) 21 [.sl (Lf Bl) .none,.str t] (.int .i64 (Ja Bl t)):=pS rfl (A26 (hK _) Bl _ t (by decide) (by decide))
theorem Bia(n:Nat)(t:List UInt8):Ao (CF (n+3)) 7 [.str t] (.bool (nmP t)):=pS rfl (A09 (hK _) t Aan (Bhf hK n t) (Bfd hK (n+1)) (Bdg hK (n+1) t))
variable(L:Nat)(W:List Wd)
omit hK L W in
theorem Ah4{l:List Qy}{y:Qy}(h:y∈l):Df y≤dmax l:=by
 have key:∀(l:List Qy) (a:Nat),a≤l.foldl (fun a y=>max a (Df y)) a∧∀y∈l,Df y≤l.foldl (fun a y=>max a (Df y)) a:=fun l=>by
  induction l with
  |nil=>exact fun a=>⟨Nat.le_refl _,fun y hy=>by cases hy⟩
  |cons z l ih=>
   intro a;obtain⟨h1,h2⟩:=ih (max a (Df z));rw[List.foldl_cons];refine⟨by omega,fun y hy=>?_⟩
   rcases List.mem_cons.1 hy with rfl|hy
   ·omega
   ·exact h2 y hy
 exact(key l 0).2 y h
omit L W in
theorem A6n:∀(n m:Nat) (x:Qy),Df x≤n→Df x<1000000→Ao (CF (m+n)) 18 [.agg (Br x)] (.int .i64 (Df x:Int))
 |0,m,x,h,_=>absurd (Xv x) (by omega)
 |n+1,m,x,h,h2=>pS rfl (A8t (hK _) x h2 (by decide) fun y hy=>by have hd:=Ms x;have:Df y≤dmax (L9 x):=Ah4 hy;exact A6n n m y (by omega) (by omega))
omit L W in
theorem A8v(t:List UInt8):Ao (CF 4008) 8 [.str t] (Aaw (Qx nmP gnP t)):=pS rfl (A9y (hK _) _ (fun h=>a29 hK 4001 _ (by omega)) (fun h n hn=>by
  have:=(Adj hK t.length n (3998 - n)).1;rw[show 3998 - n+n+9=4007 from by omega]at this
  exact this) (j31 hK _ 4006) (fun x hx=>A6n hK 1000 3007 x hx (by omega)))
omit L W hK in
theorem Bdq(n:Nat):Ao (CF (n+1)) 5 [] (.bool true):=Ark rfl fun cf st=>rfl
end
def Akm(W:World):Nat→Nat→Option Value:=fun b o=>W.cell? ⟨b,o,none⟩
def gA(W:World):G:= {loc:=fun _=>none,bs:=fun _=>0,tk:=fun _=>none,I:=Akm W,base:=Akm W}
theorem Bhy(W:World):Co (gA W) [] W:=by
 refine⟨fun id c h=>(by cases h),fun t k h=>(by cases h),fun id id2 b h _=>?_,fun b o v h=>h,fun id c h=>(by cases h),fun b o v h=>⟨h,fun id ho=>?_,fun o' ho'=>ho'⟩⟩
 ·rcases h with⟨h,_⟩|⟨k,h,_⟩
  ·cases h
  ·cases h
 ·rcases ho with⟨h,_⟩|⟨k,h,_⟩
  ·cases h
  ·cases h
theorem Wm{w:World}{b:Nat}{cs:Array Value}{T:TypeId}{fr:Nat × Nat}(h:w.heap[b]?=some (.cells cs T fr))(o:Nat):w.cell? ⟨b,o,none⟩=cs[o]?:=by unfold World.cell?;simp[h]
theorem Ana{W w:World}{g:G}{st:St}(hb:g.base=Akm W)(hs:Co g st w){b:Nat}{cs:Array Value}{T:TypeId}{fr:Nat × Nat}(h:W.heap[b]?=some (.cells cs T fr))(hne:0<cs.size):
  ∃T' fr',w.heap[b]?=some (.cells cs T' fr'):=by
 have key:∀o,w.cell? ⟨b,o,none⟩=cs[o]?:=fun o=>by
  have h0:g.base b 0=some cs[0]:=by rw[hb];show W.cell? ⟨b,0,none⟩=_;rw[Wm h];simp[hne]
  cases hc:cs[o]? with
  |none=>exact(hs.base b 0 _ h0).2.2 o (by rw[hb];show W.cell? ⟨b,o,none⟩=none;rw[Wm h,hc])
  |some v=>exact hs.imm _ _ _ (hs.base b o v (by rw[hb];show W.cell? ⟨b,o,none⟩=some v;rw[Wm h,hc])).1
 have h1:=key 0;have:∃ob:Go.Obj,w.heap[b]?=some ob∧ob.isCells=true:=cells_of_cell (a:=⟨b,0,none⟩) (v:=cs[0]) (by rw[h1];simp[hne])
 obtain⟨ob,h2,h3⟩:=this;cases ob with
 |cells cs' T' fr'=>
  have:cs'=cs:=by apply Array.ext_getElem?;intro o;rw[← Wm h2 o,key o]
  subst this;exact⟨T',fr',h2⟩
 |_=>cases h3
theorem Bfn(W:World)(h:Lib.TabIs prog W "internal/strconv.uint64pow10" .u64 Lib.pow10Tab):Aw0 (Akm W):=fun g st w hb hs=>by
 unfold Lib.TabIs World.var? at h ⊢;rw[Option.bind_eq_some_iff]at h;obtain⟨gi,h1,h2⟩:=h;rw[h1,Option.bind_some];split at h2
 ·rename_i cs T fr hh;cases h2;obtain⟨T',fr',h3⟩:=Ana hb hs hh (by decide)
  rw[h3]
 ·cases h2
structure A6p(W:World):Prop where
 m:∃m,W.cell? ⟨0,0,none⟩=some (.int .i64 m)
 t:Lib.TabIs prog W "internal/strconv.uint64pow10" .u64 Lib.pow10Tab
 s:∃tp p,W.cell? ⟨4,0,none⟩=some (.iface tp p)
 r:∃tp p,W.cell? ⟨5,0,none⟩=some (.iface tp p)
structure Aps(W W':World):Prop where
 os:W'.os=W.os
 out:W'.output=W.output
 up:∀i,i<W.heap.size→W'.heap[i]?=W.heap[i]?
theorem Aps.but{W W':World}(h:Aps W W'):W.keptBut W' (fun _=>False):=⟨h.os,h.out,fun i hi=>by rw[h.up i hi];split<;>simp_all⟩
theorem At2{W:World}(hL:A6p W){N f:Nat}{xs:List D}{v:D}{A:Array Value}(h:(∀n f,Ba (CF n f))→Ao (CF N) f xs v)(hA:F8 (gA W) xs A):
  Calls prog f A W fun e W'=>∃r g',e= .returned r∧VR g' v r∧Aps W W':=by
 have hM:I6 (Akm W):=hL.m;have hO:=Asm hM (Bfn W hL.t) ⟨hL.s,hL.r⟩;have hK:∀n f,Ba (CF n f):=fun n=>(Aq5 hO 2000 n).keeps;refine(((Aq5 hO 2000 N).just f) _ _ _ _ _ (h hK []) (gA W) W A rfl (Bhy W) hA).mono ?_;rintro e W' ⟨r,g',rfl,hv,_,hst,_⟩;exact⟨r,g',rfl,hv,hst.os,hst.out,fun i hi=>hst.fr i hi fun id hid=>by cases hid⟩
end Go.Vam
