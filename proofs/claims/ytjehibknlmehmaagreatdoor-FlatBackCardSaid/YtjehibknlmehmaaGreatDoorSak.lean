/- Library functions of strings by the shelf; what a row of a program is; the document's text of rows. No condition. -/
import Derived.Shelf.Strconv.Itoa3
import Derived.Shelf.Strings.Repeat
import Derived.Shelf.Strings.OnBuilder
import Derived.Test.YtjehibknlmehmaaGreatDoorProg
import Derived.Lib.ItoaLen
import Derived.Test.YtjehibknlmehmaaGreatDoorGrk
import Derived.Test.YtjehibknlmehmaaGreatDoorWak
set_option maxRecDepth 100000
namespace Go.Proofs
open Go.Shelf
def Tryz.G5:Go.Shelf.Ren:={ f:=fun x=>match x with |171=>29 |243=>47 |246=>79 |283=>103 |284=>104 |285=>105 |286=>106 |129=>122 |317=>121 |318=>123 |319=>124 |320=>125 |337=>132 |338=>133 |n=>n,t:=fun x=>match x with |3=>3 |9=>9 |2=>2 |4=>4 |171=>163 |0=>0 |53=>36 |37=>73 |5=>5 |173=>166 |212=>178 |51=>179 |20=>20 |213=>180 |46=>159 |232=>191 |233=>192 |n=>n,g:=fun x=>match x with |17=>0 |18=>2 |19=>3 |n=>n }
theorem Tryz.Sj:LaysM.n171 Tryz.prog Tryz.G5 where
 mixed:=by kernel_rfl
 f129:=Tryz.func122.trans (congrArg some (by kernel_rfl))
 f171:=Tryz.func29.trans (congrArg some (by kernel_rfl))
 f243:=Tryz.func47.trans (congrArg some (by kernel_rfl))
 f246:=Tryz.func79.trans (congrArg some (by kernel_rfl))
 f283:=Tryz.func103.trans (congrArg some (by kernel_rfl))
 f284:=Tryz.func104.trans (congrArg some (by kernel_rfl))
 f285:=Tryz.func105.trans (congrArg some (by kernel_rfl))
 f286:=Tryz.func106.trans (congrArg some (by kernel_rfl))
 f317:=Tryz.func121.trans (congrArg some (by kernel_rfl))
 f318:=Tryz.func123.trans (congrArg some (by kernel_rfl))
 f319:=Tryz.func124.trans (congrArg some (by kernel_rfl))
 f320:=Tryz.func125.trans (congrArg some (by kernel_rfl))
 f337:=Tryz.func132.trans (congrArg some (by kernel_rfl))
 f338:=Tryz.func133.trans (congrArg some (by kernel_rfl))
 t0:=Tryz.underlying0
 a0:=Tryz.isAgg0
 z0:=Tryz.sizeOf0
 v0:=Tryz.zeroValue0
 t2:=Tryz.underlying2
 a2:=Tryz.isAgg2
 z2:=Tryz.sizeOf2
 v2:=Tryz.zeroValue2
 t3:=Tryz.underlying3
 a3:=Tryz.isAgg3
 z3:=Tryz.sizeOf3
 v3:=Tryz.zeroValue3
 t4:=Tryz.underlying4
 a4:=Tryz.isAgg4
 z4:=Tryz.sizeOf4
 v4:=Tryz.zeroValue4
 t5:=Tryz.underlying5
 a5:=Tryz.isAgg5
 z5:=Tryz.sizeOf5
 v5:=Tryz.zeroValue5
 t9:=Tryz.underlying9
 a9:=Tryz.isAgg9
 z9:=Tryz.sizeOf9
 v9:=Tryz.zeroValue9
 t20:=Tryz.underlying20
 a20:=Tryz.isAgg20
 z20:=Tryz.sizeOf20
 v20:=Tryz.zeroValue20
 t37:=Tryz.underlying73
 a37:=Tryz.isAgg73
 z37:=Tryz.sizeOf73
 v37:=Tryz.zeroValue73
 t46:=Tryz.underlying159
 a46:=Tryz.isAgg159
 z46:=Tryz.sizeOf159
 v46:=Tryz.zeroValue159
 t51:=Tryz.underlying179
 a51:=Tryz.isAgg179
 z51:=Tryz.sizeOf179
 v51:=Tryz.zeroValue179
 t53:=Tryz.underlying36
 a53:=Tryz.isAgg36
 z53:=Tryz.sizeOf36
 v53:=Tryz.zeroValue36
 t171:=Tryz.underlying163
 a171:=Tryz.isAgg163
 z171:=Tryz.sizeOf163
 v171:=Tryz.zeroValue163
 t173:=Tryz.underlying166
 a173:=Tryz.isAgg166
 z173:=Tryz.sizeOf166
 v173:=Tryz.zeroValue166
 t212:=Tryz.underlying178
 a212:=Tryz.isAgg178
 z212:=Tryz.sizeOf178
 v212:=Tryz.zeroValue178
 t213:=Tryz.underlying180
 a213:=Tryz.isAgg180
 z213:=Tryz.sizeOf180
 t232:=Tryz.underlying191
 a232:=Tryz.isAgg191
 z232:=Tryz.sizeOf191
 v232:=Tryz.zeroValue191
 t233:=Tryz.underlying192
 a233:=Tryz.isAgg192
 z233:=Tryz.sizeOf192
 v233:=Tryz.zeroValue192
 g17:=by kernel_rfl
 g18:=by kernel_rfl
 g19:=by kernel_rfl
 i0:=by kernel_rfl
 i2:=by kernel_rfl
 i3:=by kernel_rfl
 i4:=by kernel_rfl
 i5:=by kernel_rfl
 i9:=by kernel_rfl
 i20:=by kernel_rfl
 i37:=by kernel_rfl
 i46:=by kernel_rfl
 i51:=by kernel_rfl
 i53:=by kernel_rfl
 i171:=by kernel_rfl
 i173:=by kernel_rfl
 i212:=by kernel_rfl
 i232:=by kernel_rfl
 i233:=by kernel_rfl
 m17:=by kernel_rfl
 m18:=by kernel_rfl
 m19:=by kernel_rfl
def Tryz.dq:Go.Shelf.Ren:={ f:=fun x=>match x with |156=>82 |165=>108 |166=>84 |169=>32 |240=>111 |241=>126 |276=>130 |277=>134 |n=>n,t:=fun x=>match x with |31=>125 |9=>9 |3=>3 |4=>4 |0=>0 |20=>20 |72=>75 |76=>148 |70=>72 |37=>73 |75=>147 |127=>112 |164=>186 |5=>5 |80=>80 |n=>n,g:=fun n=>n }
theorem Tryz.ph:Lays.n156 Tryz.prog Tryz.dq where
 mixed:=by kernel_rfl
 f156:=Tryz.func82.trans (congrArg some (by kernel_rfl))
 f165:=Tryz.func108.trans (congrArg some (by kernel_rfl))
 f166:=Tryz.func84.trans (congrArg some (by kernel_rfl))
 f169:=Tryz.func32.trans (congrArg some (by kernel_rfl))
 f240:=Tryz.func111.trans (congrArg some (by kernel_rfl))
 f241:=Tryz.func126.trans (congrArg some (by kernel_rfl))
 f276:=Tryz.func130.trans (congrArg some (by kernel_rfl))
 f277:=Tryz.func134.trans (congrArg some (by kernel_rfl))
 t0:=Tryz.underlying0
 a0:=Tryz.isAgg0
 z0:=Tryz.sizeOf0
 v0:=Tryz.zeroValue0
 t3:=Tryz.underlying3
 a3:=Tryz.isAgg3
 z3:=Tryz.sizeOf3
 v3:=Tryz.zeroValue3
 t4:=Tryz.underlying4
 a4:=Tryz.isAgg4
 z4:=Tryz.sizeOf4
 v4:=Tryz.zeroValue4
 t9:=Tryz.underlying9
 a9:=Tryz.isAgg9
 z9:=Tryz.sizeOf9
 v9:=Tryz.zeroValue9
 t20:=Tryz.underlying20
 a20:=Tryz.isAgg20
 z20:=Tryz.sizeOf20
 v20:=Tryz.zeroValue20
 t31:=Tryz.underlying125
 a31:=Tryz.isAgg125
 z31:=Tryz.sizeOf125
 v31:=Tryz.zeroValue125
 t37:=Tryz.underlying73
 a37:=Tryz.isAgg73
 z37:=Tryz.sizeOf73
 v37:=Tryz.zeroValue73
 t70:=Tryz.underlying72
 a70:=Tryz.isAgg72
 z70:=Tryz.sizeOf72
 v70:=Tryz.zeroValue72
 t72:=Tryz.underlying75
 a72:=Tryz.isAgg75
 z72:=Tryz.sizeOf75
 v72:=Tryz.zeroValue75
 t75:=Tryz.underlying147
 a75:=Tryz.isAgg147
 z75:=Tryz.sizeOf147
 v75:=Tryz.zeroValue147
 t76:=Tryz.underlying148
 a76:=Tryz.isAgg148
 z76:=Tryz.sizeOf148
 v76:=Tryz.zeroValue148
 t127:=Tryz.underlying112
 a127:=Tryz.isAgg112
 z127:=Tryz.sizeOf112
 v127:=Tryz.zeroValue112
 t164:=Tryz.underlying186
 a164:=Tryz.isAgg186
 z164:=Tryz.sizeOf186
 v164:=Tryz.zeroValue186
def Tryz.sV:Go.Shelf.Ren:={ f:=fun x=>match x with |105=>83 |212=>109 |99=>110 |165=>108 |166=>84 |170=>31 |169=>32 |263=>127 |264=>128 |206=>129 |240=>111 |241=>126 |276=>130 |277=>134 |n=>n,t:=fun x=>match x with |9=>9 |3=>3 |4=>4 |20=>20 |0=>0 |46=>159 |109=>168 |5=>5 |72=>75 |76=>148 |51=>179 |146=>182 |53=>36 |148=>184 |70=>72 |37=>73 |75=>147 |127=>112 |164=>186 |80=>80 |n=>n,g:=fun n=>n }
theorem Tryz.Sl:Lays.n105 Tryz.prog Tryz.sV where
 mixed:=by kernel_rfl
 f99:=Tryz.func110.trans (congrArg some (by kernel_rfl))
 f105:=Tryz.func83.trans (congrArg some (by kernel_rfl))
 f165:=Tryz.func108.trans (congrArg some (by kernel_rfl))
 f166:=Tryz.func84.trans (congrArg some (by kernel_rfl))
 f169:=Tryz.func32.trans (congrArg some (by kernel_rfl))
 f170:=Tryz.func31.trans (congrArg some (by kernel_rfl))
 f206:=Tryz.func129.trans (congrArg some (by kernel_rfl))
 f212:=Tryz.func109.trans (congrArg some (by kernel_rfl))
 f240:=Tryz.func111.trans (congrArg some (by kernel_rfl))
 f241:=Tryz.func126.trans (congrArg some (by kernel_rfl))
 f263:=Tryz.func127.trans (congrArg some (by kernel_rfl))
 f264:=Tryz.func128.trans (congrArg some (by kernel_rfl))
 f276:=Tryz.func130.trans (congrArg some (by kernel_rfl))
 f277:=Tryz.func134.trans (congrArg some (by kernel_rfl))
 t0:=Tryz.underlying0
 a0:=Tryz.isAgg0
 z0:=Tryz.sizeOf0
 v0:=Tryz.zeroValue0
 t3:=Tryz.underlying3
 a3:=Tryz.isAgg3
 z3:=Tryz.sizeOf3
 v3:=Tryz.zeroValue3
 t4:=Tryz.underlying4
 a4:=Tryz.isAgg4
 z4:=Tryz.sizeOf4
 v4:=Tryz.zeroValue4
 t5:=Tryz.underlying5
 a5:=Tryz.isAgg5
 z5:=Tryz.sizeOf5
 v5:=Tryz.zeroValue5
 t9:=Tryz.underlying9
 a9:=Tryz.isAgg9
 z9:=Tryz.sizeOf9
 v9:=Tryz.zeroValue9
 t20:=Tryz.underlying20
 a20:=Tryz.isAgg20
 z20:=Tryz.sizeOf20
 v20:=Tryz.zeroValue20
 t37:=Tryz.underlying73
 a37:=Tryz.isAgg73
 z37:=Tryz.sizeOf73
 v37:=Tryz.zeroValue73
 t46:=Tryz.underlying159
 a46:=Tryz.isAgg159
 z46:=Tryz.sizeOf159
 v46:=Tryz.zeroValue159
 t51:=Tryz.underlying179
 a51:=Tryz.isAgg179
 z51:=Tryz.sizeOf179
 v51:=Tryz.zeroValue179
 t53:=Tryz.underlying36
 a53:=Tryz.isAgg36
 z53:=Tryz.sizeOf36
 v53:=Tryz.zeroValue36
 t70:=Tryz.underlying72
 a70:=Tryz.isAgg72
 z70:=Tryz.sizeOf72
 v70:=Tryz.zeroValue72
 t72:=Tryz.underlying75
 a72:=Tryz.isAgg75
 z72:=Tryz.sizeOf75
 v72:=Tryz.zeroValue75
 t75:=Tryz.underlying147
 a75:=Tryz.isAgg147
 z75:=Tryz.sizeOf147
 v75:=Tryz.zeroValue147
 t76:=Tryz.underlying148
 a76:=Tryz.isAgg148
 z76:=Tryz.sizeOf148
 v76:=Tryz.zeroValue148
 t109:=Tryz.underlying168
 a109:=Tryz.isAgg168
 z109:=Tryz.sizeOf168
 v109:=Tryz.zeroValue168
 t127:=Tryz.underlying112
 a127:=Tryz.isAgg112
 z127:=Tryz.sizeOf112
 v127:=Tryz.zeroValue112
 t146:=Tryz.underlying182
 a146:=Tryz.isAgg182
 z146:=Tryz.sizeOf182
 v146:=Tryz.zeroValue182
 t148:=Tryz.underlying184
 a148:=Tryz.isAgg184
 z148:=Tryz.sizeOf184
 v148:=Tryz.zeroValue184
 t164:=Tryz.underlying186
 a164:=Tryz.isAgg186
 z164:=Tryz.sizeOf186
 v164:=Tryz.zeroValue186
theorem Tryz.vW:(Tryz.sV).f 105=83:=rfl
end Go.Proofs
namespace Go.Ab
open Go.RowKit
theorem Step.Nz{E:Env}{h:AH}{M:Nat->Prop}{w w':World}(hr:Rel E h w)(hb:Below w.heap.size w w'):Step E h M w E h w' where
 env _ _ h:=h
 rel:=⟨fun id o ho=>let ⟨B,hB,hO⟩:=hr.obj id o ho;⟨B,hB,hO.mono (fun _ _ h=>h) (hb.block _ hO.lt)⟩,hr.inj,hr.fresh⟩
 next:=zU _
 dr _ _ _:=rfl
 dead _ _ h:=h
 os:=hb.os
 tape:=hb.tape
 output:=hb.output
 size:=hb.size
 frame b nG _:=hb.block b nG
 zw id B o h1 _ _ h3:=by have:=h.lt _ _ h1;omega
 AW id o o' h1 h2 h3:=by rw[h1]at h2;cases h2;exact h3
theorem rO{P:Program}{f:FuncId}{args:List AV}{h:AH}{M:Nat->Prop}{R:AE->AH->Prop}{v:Value}
  (hc:∀E w dR,Rel E h w->cu E args dR->Calls P f dR.toArray w fun e w'=>e=.returned v/\Below w.heap.size w w') (hR:R (.ret (.sc v)) h):aB P f args h M R:=by
 intro E w dR hr ha
 refine(hc E w dR hr ha).mono ?_
 rintro e w' ⟨rfl,hb⟩
 exact⟨E,h,.ret (.sc v),Step.Nz hr hb,.sc _,hR⟩
def NA(g:Nat)(ob:Go.Obj):AO:={ cells:=[],sz:=0,ty:=0,ro:=true,kind:=.FW g ob }
def rj(ty:TypeId)(fz:Nat×Nat):Go.Obj:=.cells ((Lib.pow10Tab.map fun z=>Value.int .u64 z).toArray) ty fz
def bS(g:Nat)(h:AH):Prop:=∃ty fz,h.obj 0=some (NA g (rj ty fz))
theorem bS.fr{g:Nat}{h h':AH}{S:Nat->Prop}(ht:bS g h)(hf:Fr h h' S)(hs:¬S 0):bS g h':=by
 obtain⟨ty,fz,h0⟩:=ht
 exact⟨ty,fz,hf.obj h0 hs⟩
theorem bS.is {P : Program} {g : Nat} {E : Env} {h : AH} {w : World} (ht : bS g h) (hr : Rel E h w) (hg : P.globalNamed "internal/strconv.uint64pow10" = some g) : Lib.TabIs P w "internal/strconv.uint64pow10" .u64 Lib.pow10Tab := by
 obtain⟨ty,fz,h0⟩:=ht
 obtain⟨B,hB,hO⟩:=hr.obj 0 _ h0
 have LM:B.b=g/\w.heap[g]?=some (rj ty fz):=hO
 unfold Lib.TabIs World.var?
 rw[hg,Option.bind_some,LM.2]
 rfl
theorem JC(w:World)(k:Nat)(os:Array Go.Obj):Below w.heap.size w (Go.Sort.grow (w.drewN k) os):=by
 refine⟨rfl,rfl,rfl,?_,fun i hi=>?_⟩
 ·show _<=(w.heap++os).size
  simp
 ·show(w.heap++os)[i]?=_
  rw[Array.getElem?_append_left hi]
end Go.Ab
namespace Go.Proofs.YtjehibknlmehmaaGreatDoor
section
open Go.Ab Go.RowKit Go.Shelf
theorem XV : Tryz.prog.globalNamed "internal/strconv.uint64pow10" = some 0 := by kernel_rfl
theorem Tryz.Ha:Builder.Extra Tryz.prog Tryz.sV where
 sizeBuilder:=by kernel_rfl
 liesBuilder:=by kernel_rfl
 t5:=Tryz.underlying5
 a5:=Tryz.isAgg5
 z5:=Tryz.sizeOf5
 v5:=Tryz.zeroValue5
 infoByte:=by kernel_rfl
 cellsByte:=by kernel_rfl
 sizeByte:=by kernel_rfl
 neB5:=by decide
theorem Tryz.j8:Builder.Extra Tryz.prog Tryz.dq where
 sizeBuilder:=by kernel_rfl
 liesBuilder:=by kernel_rfl
 t5:=Tryz.underlying5
 a5:=Tryz.isAgg5
 z5:=Tryz.sizeOf5
 v5:=Tryz.zeroValue5
 infoByte:=by kernel_rfl
 cellsByte:=by kernel_rfl
 sizeByte:=by kernel_rfl
 neB5:=by decide
section
variable {h:AH} {M:Nat->Prop} {R:AE->AH->Prop}
theorem Ce{n:Int}(h0:-9223372036854775808<=n)(h1:n<=9223372036854775807)(ht:bS 0 h)(hR:R (.ret (.sc (.string ⟨(Lib.itoa n).toArray⟩))) h):aB Tryz.prog 29 [.sc (.int .i64 n)] h M R:=by
 refine rO (v:=.string ⟨(Lib.itoa n).toArray⟩) (fun E w dR hr ha=>?_) hR
 cases ha with
 |cons a1 a2=>
  cases a2;cases a1
  refine(Any.strconv_Itoa Tryz.Sj n h0 h1 w (ht.is hr XV)).mono ?_
  rintro e w' ⟨he,k,os,rfl⟩
  exact⟨he,JC w k os⟩
theorem Ko{s:ByteArray}{c:Nat}(hc:c<=100000)(hs:s.size<=100000)(hR:R (.ret (.sc (.string ⟨(Lib.repeatL s.data.toList c).toArray⟩))) h):aB Tryz.prog 83 [.sc (.string s),.sc (.int .i64 c)] h M R:=by
 refine rO (v:=.string ⟨(Lib.repeatL s.data.toList c).toArray⟩) (fun E w dR hr ha=>?_) hR
 cases ha with
 |cons a1 a2=>
  cases a2 with
  |cons a2 a3=>
   cases a3;cases a1;cases a2
   exact Any.strings_Repeat Tryz.Sl Tryz.Ha s c w (by omega) (by have:=Nat.mul_le_mul hs hc;omega)
def oT(s:ByteArray):List AV:=[.sc (.string s)]
theorem L8(l:List ByteArray):l.flatMap oT=l.map fun s=>.sc (.string s):=by
 induction l with
 |nil=>rfl
 |cons s l ih=>simp[oT,ih]
theorem So{x:AV}{xs:List ByteArray}{sep:ByteArray}(hx:bC oT 1 9 h x xs)(hn:xs.length<=100000)(hl:(Lib.join (xs.map (·.data.toList)) sep.data.toList).length<=140737488355328)
  (hR:R (.ret (.sc (.string ⟨(Lib.join (xs.map (·.data.toList)) sep.data.toList).toArray⟩))) h):aB Tryz.prog 82 [x,.sc (.string sep)] h M R:=by
 refine rO (v:=.string ⟨(Lib.join (xs.map (·.data.toList)) sep.data.toList).toArray⟩) (fun E w dR hr ha=>?_) hR
 cases ha with
 |cons a1 a2=>
  cases a2 with
  |cons a2 a3=>
   cases a3;cases a2
   rcases hx with⟨rfl,rfl⟩ |⟨id,rfl,ho⟩
   ·cases a1
    refine(Any.strings_Join_none Tryz.ph Tryz.j8 none 0 sep w).mono ?_
    rintro e w' ⟨he,rfl⟩
    exact⟨by rw[he];rfl,Below.refl _ _⟩
   ·cases a1 with
    |sl hB Dj hc hlen hm=>
     rename_i o' cap B
     obtain⟨B',cO,hO⟩:=hr.obj id _ ho
     rw[hB]at cO;cases cO
     obtain⟨arr,fz,hb,my,hle,vv,dJ⟩:=hO.row rfl
     obtain⟨_,Qs,fN⟩:=my rfl
     have dJ:=dJ.zero fN
     have aJ:=hO.lt
     have qx:B.sz=1:=vv
     have jR:(aI (xs.flatMap oT) 1 9).cells=xs.map fun s=>.sc (.string s):=L8 xs
     rw[jR]at dJ
     by_cases h0:xs.length=0
     ·have:xs=[]:=List.length_eq_zero_iff.1 h0
      subst this
      refine(Any.strings_Join_none Tryz.ph Tryz.j8 (some ⟨B.b,o',none⟩) cap sep w).mono ?_
      rintro e w' ⟨he,rfl⟩
      exact⟨by rw[he];rfl,Below.refl _ _⟩
     ·have dy:o'=0:=by omega
      subst dy
      have:=Any.strings_Join Tryz.ph Tryz.j8 B.b 0 cap xs sep w (fun j s hj=>?_) aJ (by omega) hlen hl
      ·exact this
      ·obtain⟨v,hv,gN,_⟩:=dJ j (.sc (.string s)) (by simp[hj])
       cases gN
       simp[World.cell?,hb,hv]
end
end
section
open Go.Ab Go.RowKit Go.Shelf
theorem IN{p:Program}{fits:TypeId->Bool}{d:Nat}{e:TypeId}{off n c:Nat}(h:rowAt p fits d e 1 off n=true)(ho:off<p.cellsOf e)(hc:0<c):rowAt p fits d e c off n=true:=by
 cases d with
 |zero=>simp[rowAt]at h
 |succ d=>
  unfold rowAt at h ⊢
  have hs:¬p.cellsOf e=0:=by omega
  simp only[hs,if_false,Nat.div_eq_of_lt ho,Nat.mod_eq_of_lt ho,zG]at h ⊢
  rw[Bool.or_eq_true]at h ⊢
  rcases h with h |h
  ·left
   simp only[yC,decide_eq_true_eq]at h ⊢
   exact⟨⟨h.1.1,by omega⟩,h.2⟩
  ·right
   rw[yC]at h ⊢
   exact⟨by simpa using hc,h.2⟩
theorem yu{p:Program}{e:TypeId}{off c:Nat}(ho:off<p.cellsOf e)(hc:0<c):∀(d:Nat)(u:TypeId)(n:Nat),liesAt p d e 1 off u n=true->liesAt p d e c off u n=true
 |0,_,_,h=>by simp[liesAt]at h
 |d+1,u,n,h=>by
  unfold liesAt at h ⊢
  rw[Bool.or_eq_true]at h ⊢
  rcases h with h |h
  ·exact .inl (IN h ho hc)
  ·right
   split at h
   ·exact yu ho hc d _ _ h
   ·cases h
theorem G4{n:Nat}(hn:3<=n):liesAt Pg Tryz.prog.depth 77 (n/Tryz.prog.cellsOf 77) 1 75 1=true:=by
 have h3:Tryz.prog.cellsOf 77=3:=by kernel_rfl
 refine yu (by rw[h3];omega) ?_ _ _ _ (by kernel_rfl)
 rw[h3]
 exact Nat.div_pos hn (by omega)
set_option maxHeartbeats 1000000 in
theorem BO(b n:Nat)(w:World)(h0:w.cell? ⟨b,1,none⟩=some (.pointer none))(Zc:w.shape? b=some (77,n))(hn:3<=n)(my:w.frozen? ⟨b,1,none⟩=false) :
  Calls Pg 111 #[.pointer (some ⟨b,1,none⟩)] w fun e w'=>e=.returned (.tuple #[])/\w'=w.setCell ⟨b,1,none⟩ (.pointer (some ⟨b,1,none⟩)):=by
 have L:=Tryz.ph
 have X:=Tryz.j8.toX72
 obtain⟨j,hj,HQ⟩:=Option.map_eq_some_iff.1 X.sizeBuilder
 have mixed:=L.mixed
 have XJ:=G4 hn
 have t72:=L.t72;have a72:=L.a72;have z72:=L.z72;have v72:=L.v72;have Tw:=run_underlying L.t72
 have t70:=L.t70;have a70:=L.a70;have z70:=L.z70;have v70:=L.v70;have Tx:=run_underlying L.t70
 have t9:=L.t9;have a9:=L.a9;have z9:=L.z9;have v9:=L.v9;have u9:=run_underlying L.t9
 have t4:=L.t4;have a4:=L.a4;have z4:=L.z4;have v4:=L.v4;have u4:=run_underlying L.t4
 have t164:=L.t164;have a164:=L.a164;have z164:=L.z164;have v164:=L.v164;have aas:=run_underlying L.t164
 go_enter L.f240,Body.n240_ntmps Tryz.dq
 go_wp2
 rw[Lib.run_to_unsafe w ⟨b,1,none⟩ L.t70 L.t164 hj (by rw[HQ];decide) Zc (by show 1<n;omega)]
 simp only[Result.andThen]
 rw[Oper.upon_value]
 go_wp2
 rw[run_callFunc_extern L.f276 (by kernel_rfl) (by kernel_rfl) (by kernel_rfl) (e:=Extern.AbiNoEscape.same) (by kernel_rfl)]
 rw[Lib.run_noEscape]
 simp only[Result.andThen]
 rw[Oper.upon_value]
 go_wp2
 rw[Lib.run_from_unsafe w ⟨b,1,none⟩ L.t164 L.t70 hj Zc XJ]
 simp only[Result.andThen]
 rw[Oper.upon_value]
 go_wp2
 go_end0
 exact⟨rfl,rfl⟩
set_option maxHeartbeats 1000000 in
theorem Cu(b:Nat)(w:World)(h0:w.cell? ⟨b,1,none⟩=some (.pointer (some ⟨b,1,none⟩))) :
  Calls Pg 111 #[.pointer (some ⟨b,1,none⟩)] w fun e w'=>e=.returned (.tuple #[])/\w'=w:=by
 have L:=Tryz.ph
 have X:=Tryz.j8.toX72
 obtain⟨j,hj,_⟩:=Option.map_eq_some_iff.1 X.sizeBuilder
 have mixed:=L.mixed
 have t72:=L.t72;have a72:=L.a72;have z72:=L.z72;have v72:=L.v72;have Tw:=run_underlying L.t72
 have t70:=L.t70;have a70:=L.a70;have z70:=L.z70;have v70:=L.v70;have Tx:=run_underlying L.t70
 have t9:=L.t9;have a9:=L.a9;have z9:=L.z9;have v9:=L.v9;have u9:=run_underlying L.t9
 have t4:=L.t4;have a4:=L.a4;have z4:=L.z4;have v4:=L.v4;have u4:=run_underlying L.t4
 have t164:=L.t164;have a164:=L.a164;have z164:=L.z164;have v164:=L.v164;have aas:=run_underlying L.t164
 go_enter L.f240,Body.n240_ntmps Tryz.dq
 go_wp2
 rw[Lib.run_neq_ptr_same w _ L.t70 hj]
 go_wp2
 go_end0
 exact⟨rfl,rfl⟩
end
end Go.Proofs.YtjehibknlmehmaaGreatDoor
namespace Go.Ab
open Go.RowKit
theorem G7(w:World)(a:Addr)(n:Nat){arr:Array Value}{T:TypeId}{fz:Nat×Nat}(h:w.heap[a.block]?=some (.cells arr T fz)):∃yU,(w.freeze a n).heap[a.block]?=some (.cells arr T yU):=by
 unfold World.freeze
 split
 ·exact⟨fz,h⟩
 ·obtain⟨lo,hi⟩:=fz
  simp only[Array.getElem?_modify,h,zV,yB]
  exact⟨_,rfl⟩
theorem tH(w:World)(a:Addr)(n:Nat){k:Nat}(h:k≠a.block):(w.freeze a n).heap[k]?=w.heap[k]?:=by
 unfold World.freeze
 split
 ·rfl
 ·simp only[Array.getElem?_modify]
  rw[zW (fun e=>h e.symm)]
theorem G8(w:World)(a:Addr)(n:Nat):(w.freeze a n).heap.size=w.heap.size:=by
 unfold World.freeze
 split
 ·rfl
 ·simp
def AH.ZR(h:AH)(id:Nat):AH:=h.eP id fun o=>{ o with ro:=true }
theorem AH.pn(h:AH)(id i:Nat):(h.ZR id).obj i=if i=id then(h.obj i).map (fun o=>{ o with ro:=true }) else h.obj i:=rfl
theorem Step.freeze{E:Env}{h:AH}{M:Nat->Prop}{w:World}(hr:Rel E h w){id:Nat}{B:oE}{o:AO}(ho:h.obj id=some o)(hB:E id=some B)(hk:o.kind=.row)(fc:o.ro=false)(hM:M id)(n:Nat) :
  Step E h M w E (h.ZR id) (w.freeze ⟨B.b,0,none⟩ n):=by
 obtain⟨B',cO,hO⟩:=hr.obj id o ho
 obtain⟨arr,fz,hb,my,hle,gO,dJ⟩:=hO.row hk
 rw[hB]at cO;cases cO
 obtain⟨yU,nG⟩:=G7 w ⟨B.b,0,none⟩ n hb
 refine⟨fun _ _ h=>h,⟨?_,?_,hr.fresh⟩,zU _,?_,?_,?_,?_,?_,by rw[G8];exact zU _,?_,?_,?_⟩
 ·intro i o' dy
  rw[AH.pn]at dy
  by_cases e:i=id
  ·subst e
   rw[zX rfl,ho]at dy
   simp only[yB,zQ]at dy
   subst dy
   exact⟨B,hB,OR.A7 hk ⟨arr,yU,nG,fun h=>by simp at h,hle,gO,dJ⟩⟩
  ·rw[zW e]at dy
   obtain⟨B',cO,hO⟩:=hr.obj i o' dy
   exact⟨B',cO,hO.mono (fun _ _ h=>h) (tH w _ n fun p_=>(hr.inj i id o' o B' B dy ho cO hB p_).elim e (fun hh=>by rw[fc]at hh;cases hh.2))⟩
 ·intro i j oi oj Bi Bj h1 h2 h3 h4 h5
  rw[AH.pn]at h1 h2
  have nR:∀i oi,(if i=id then(h.obj i).map (fun o=>({ o with ro:=true }:AO)) else h.obj i)=some oi->∃o',h.obj i=some o'/\(o'.ro=true->oi.ro=true):=by
   intro i oi hi
   split at hi
   ·cases ho:h.obj i with
    |none=>rw[ho]at hi;cases hi
    |some o'=>rw[ho]at hi;simp only[yB,zQ]at hi;subst hi;exact⟨o',rfl,fun _=>rfl⟩
   ·exact⟨oi,hi,fun h=>h⟩
  obtain⟨a,ha,ra⟩:=nR i oi h1
  obtain⟨b,hb,rb⟩:=nR j oj h2
  rcases hr.inj i j a b Bi Bj ha hb h3 h4 h5 with h6 |h6
  ·exact .inl h6
  ·exact .inr ⟨ra h6.1,rb h6.2⟩
 ·intro i _ hm
  rw[AH.pn,zW (fun(e:i=id)=>hm (e ▸ hM))]
 ·intro i _ h0
  rw[AH.pn,h0];simp
 ·unfold World.freeze;split<;>rfl
 ·unfold World.freeze;split<;>rfl
 ·unfold World.freeze;split<;>rfl
 ·intro b _ kZ
  exact tH w _ n (fun p_=>kZ id B o hM ho fc hB p_.symm)
 ·intro i C oi hi _ _ ll
  rw[AH.pn]at hi
  have:h.obj i≠none:=fun h0=>by rw[h0]at hi;simp at hi
  have:=AH.K3 this
  omega
 ·intro i o1 o2 dP eB oQ
  rw[AH.pn]at eB
  split at eB
  ·rw[dP]at eB;simp only[yB,zQ]at eB;subst eB;rfl
  ·rw[dP]at eB;cases eB;exact oQ
end Go.Ab
namespace Go.Proofs.YtjehibknlmehmaaGreatDoor
section
open Go.Ab Go.RowKit Go.Shelf
def SW(n0:Nat)(h:AH)(id:Nat):Prop:=n0<=id/\∃o,h.obj id=some o/\o.ro=false/\(o.ty=77\/o.ty=5)
theorem SW.trans{n0:Nat}{h h1 h2:AH}(a:Fr h h1 (SW n0 h))(b:Fr h1 h2 (SW n0 h1)):Fr h h2 (SW n0 h):=by
 refine⟨zR a.next b.next,fun id dP eB=>?_⟩
 have e1:=a.dr id dP eB
 rw[b.dr id (Nat.lt_of_lt_of_le dP a.next) ?_,e1]
 rintro⟨h3,o,h4,h5⟩
 exact eB ⟨h3,o,by rw[<-e1];exact h4,h5⟩
theorem SW.bp{n0:Nat}{h h1:AH}(a:Fr h h1 fun _=>False):Fr h h1 (SW n0 h):=a.mono fun _ h=>h.elim
structure Wr (n0:Nat) (h:AH) (w:Nat) (rv:AV) (l:List UInt8):Prop where
 own:n0<=w
 ex:∃p bv,h.obj w=some (aI [rv,p,bv] 3 77)/\(p=.sc (.pointer none)\/p=.ptr w 1)/\((bv=aV/\l=[])\/∃id,l≠[]/\n0<=id/\bv=.sl id 0 l.length/\h.obj id=some (aI (jl l) 1 5))
theorem Wr.fr{n0:Nat}{h h':AH}{w:Nat}{rv:AV}{l:List UInt8}(a:Wr n0 h w rv l){S:Nat->Prop}(hf:Fr h h' S)(hs:∀id o,h.obj id=some o->o.ty=77\/o.ty=5->¬S id):Wr n0 h' w rv l:=by
 obtain⟨h1,p,bv,h2,h3,h4⟩:=a
 refine⟨h1,p,bv,hf.obj h2 (hs _ _ h2 (.inl rfl)),h3,?_⟩
 rcases h4 with h4 |⟨id,h5,h6,h7,h8⟩
 ·exact .inl h4
 ·exact .inr ⟨id,h5,h6,h7,hf.obj h8 (hs _ _ h8 (.inr rfl))⟩
theorem Wr.be{n0:Nat}{h h':AH}{w:Nat}{rv:AV}{l:List UInt8}(a:Wr n0 h w rv l)(hf:Fr h h' fun _=>False):Wr n0 h' w rv l:=a.fr hf fun _ _ _ _ h=>h
section
variable {h:AH} {M:Nat->Prop} {R:AE->AH->Prop} {n0 w:Nat} {rv:AV} {l:List UInt8}
theorem K6(hw:Wr n0 h w rv l)(hR:R (.ret (.sc (.int .i64 l.length))) h):aB Pg 31 [.ptr w 1] h M R:=by
 obtain⟨_,p,bv,h2,_,h4⟩:=hw
 apply F31.calls
 rcases h4 with⟨rfl,rfl⟩ |⟨id,_,_,rfl,_⟩
 ·simpa[h2] using hR
 ·simpa[h2] using hR
theorem Gk{p bv:AV}(ho:h.obj w=some (aI [rv,p,bv] 3 77))(hp:p=.sc (.pointer none)\/p=.ptr w 1)(hM:M w)(hR:∀h',Fr h h' (·=w)->h'.obj w=some (aI [rv,.ptr w 1,bv] 3 77)->R (.ret (.cP [])) h'):aB Pg 111 [.ptr w 1] h M R:=by
 intro E wd dR hr ha
 cases ha with
 |cons a1 a2=>
  cases a2
  cases a1 with
  |ptr hB=>
   rename_i B
   obtain⟨B',cO,hO⟩:=hr.obj w _ ho
   rw[hB]at cO;cases cO
   obtain⟨arr,fz,hb,my,hle,vv,dJ⟩:=hO.row rfl
   obtain⟨hz,Qs,fN⟩:=my rfl
   have dJ:=dJ.zero fN
   have h3:3<=arr.size:=dJ.get
   rw[fN]
   subst hz
   obtain⟨v,hv,gN,_⟩:=dJ 1 p rfl
   rcases hp with rfl |rfl
   ·cases gN
    refine(BO B.b arr.size wd (by simp[World.cell?,hb,hv]) (by simp[World.shape?,hb]) h3 (by simp[World.frozen?,hb])).mono ?_
    rintro e w' ⟨rfl,rfl⟩
    have eA:=(Step.TI (M:=M) (c:=.ptr w 1) (v:=.pointer (some ⟨B.b,1,none⟩)) (off:=1) hr ho hB rfl rfl hM (by simp[aI]) (by have:=VR.ptr (off:=1) hB;rwa [fN]at this) rfl).1
    refine⟨E,_,.ret (.cP []),eA,.cP .nil,hR _ ⟨zU _,fun id _ b7=>AH.iM b7⟩ ?_⟩
    rw[ki ho];rfl
   ·cases gN with
    |ptr Dx=>
     rw[hB]at Dx;cases Dx
     rw[fN]at hv
     refine(Cu B.b wd (by simp[World.cell?,hb,hv])).mono ?_
     rintro e w' ⟨rfl,rfl⟩
     exact⟨E,h,.ret (.cP []),Step.refl hr,.cP .nil,hR _ Fr.refl ho⟩
theorem M6(a b:List UInt8):jl (a++b)=jl a++jl b:=by simp[jl]
theorem zj(a:List UInt8):(jl a).length=a.length:=by simp[jl]
theorem Rn{s:ByteArray}(hw:Wr n0 h w rv l)(hl:l.length+s.size<=140737488355328)(hn:n0<=h.next)(hM:∀id,SW n0 h id->M id)(hR:∀h',Fr h h' (SW n0 h)->Wr n0 h' w rv (l++s.data.toList)->R (.ret (.cP [.sc (.int .i64 s.size),.sc .nilIface])) h'):aB Pg 84 [.ptr w 1,.sc (.string s)] h M R:=by
 obtain⟨h1,p,bv,h2,h3,h4⟩:=hw
 have QJ:M w:=hM w ⟨h1,_,h2,rfl,.inl rfl⟩
 have U4:s.data.toList.length=s.size:=by rw[Array.length_toList];rfl
 have hwn:=h.lt _ _ h2
 apply It.calls
 simp only[It.k4,It.k3]
 refine⟨(·=w),fun id e _=>.inl (e ▸ QJ),Gk h2 h3 rfl ?_⟩
 intro h5 f5 o5
 have n5:=f5.next
 have ne5:∀id,h.obj id=some (aI (jl l) 1 5)->id≠w:=fun id ho e=>by subst e;rw[h2]at ho;simp[aI]at ho
 rcases h4 with⟨rfl,rfl⟩ |⟨id,h6,h7,rfl,h8⟩
 ·simp[o5,qM,az,-It.k1]
  by_cases hz:s=ByteArray.empty
  ·have hsn:s.data.toList=[]:=by subst hz;rfl
   rw[zX hz]
   simp[QJ]
   refine hR _ ?_ ⟨h1,.ptr w 1,aV,?_,.inr rfl,.inl ⟨rfl,by rw[hsn];rfl⟩⟩
   ·exact(f5.put (cs:=[aV]) (off:=2) (.inl rfl)).mono fun id e=>e ▸ ⟨h1,_,h2,rfl,.inl rfl⟩
   ·rw[ki o5];rfl
  ·rw[zW hz]
   have Fq:s.size≠0:=fun e=>hz (by simpa using e)
   refine⟨by simpa using hl,?_⟩
   have NW:w≠h5.next:=by omega
   simp[AH.bJ,NW,o5,cn,QJ]
   refine hR _ ?_ ⟨h1,.ptr w 1,.sl h5.next 0 s.size,?_,.inr rfl,.inr ⟨h5.next,?_,by omega,by simp[U4],?_⟩⟩
   ·exact((f5.alloc _).put (.inl rfl)).mono fun id e=>e ▸ ⟨h1,_,h2,rfl,.inl rfl⟩
   ·rw[ki (by rw[AH.alloc_old (by omega)];exact o5)];rfl
   ·intro e;have:=congrArg List.length e;rw[List.nil_append,U4]at this;exact Fq this
   ·rw[AH.iM (by omega),AH.cg];simp[aI]
 ·have Jo:=h.lt _ _ h8
  have Jn:=ne5 id h8
  have o8:=f5.obj h8 Jn
  have Og:M id:=hM id ⟨h7,_,h8,rfl,.inr rfl⟩
  have NW:w≠h5.next:=by omega
  simp[o5,qM,az,-It.k1]
  refine⟨_,⟨.inl Og,o8,rfl,rfl,rfl,rfl,by simp[aI,zj],hl⟩,?_⟩
  simp[AH.bJ,AH.fw,NW,AH.Ic,Jn,Ne.symm Jn,o5,cn,QJ,aI]
  have Od:h5.next≠w:=by omega
  refine hR _ ?_ ⟨h1,.ptr w 1,.sl h5.next 0 (l.length+s.size),?_,.inr rfl,.inr ⟨h5.next,?_,by omega,by simp[U4],?_⟩⟩
  ·refine⟨by simp[AH.rh,AH.bD,AH.fw];omega,fun i hi hs=>?_⟩
   have Zv:i≠w:=fun e=>hs (e ▸ ⟨h1,_,h2,rfl,.inl rfl⟩)
   have hii:i≠id:=fun e=>hs (e ▸ ⟨h7,_,h8,rfl,.inr rfl⟩)
   rw[AH.iM Zv,AH.alloc_old (by rw[AH.fw];omega),AH.qX hii,f5.dr i hi Zv]
  ·rw[ki (cells:=[rv,.ptr w 1,.sl id 0 l.length]) (sz:=3) (ty:=77) (by rw[AH.alloc_old (by rw[AH.fw];omega),AH.qX (Ne.symm Jn),o5])];rfl
  ·simp[h6]
  ·rw[AH.iM Od]
   rw[show h5.next=(h5.del id).next from rfl,AH.cg,List.take_of_length_le (by rw[zj];omega),<-M6]
end
set_option maxHeartbeats 2000000 in
theorem Gr(b g cap:Nat)(cur:Array Value)(l:List UInt8)(w:World)(h2:w.cell? ⟨b,2,none⟩=some (.slice (some ⟨g,0,none⟩) l.length cap))(hg:w.heap[g]?=some (.cells cur 5 (0,0)))
  (wT:∀j x,l[j]?=some x->w.cell? ⟨g,j,none⟩=some (.int .u8 x.toNat)) (h0:l≠[]) (hle:l.length<=cur.size) (acQ:l.length<=cap) (VH:cap<=maxLen) :
  Calls Pg 32 #[.pointer (some ⟨b,1,none⟩)] w fun e w'=>e=.returned (.string ⟨l.toArray⟩)/\w'=w.drew.freeze ⟨g,0,none⟩ l.length:=by
 have L:=Tryz.ph
 have X:=Tryz.j8
 have hl0:l.length≠0:=by simpa using h0
 have c1:w.drew.cell? ⟨b,2,none⟩=some (.slice (some ⟨g,0,none⟩) l.length cap):=h2
 have hSD:(Builtin.unsafeSliceData_ #[(Tryz.dq.t 37)] (Tryz.dq.t 127) #[.slice (some ⟨g,0,none⟩) l.length cap]).run Pg w.drew=.ok (.pointer (some ⟨g,0,none⟩)) w.drew:=
  Lib.run_unsafeSliceData_row _ _ _ _ _ _ (by omega)
 have hUS:(Builtin.unsafeString_ #[(Tryz.dq.t 127),(Tryz.dq.t 3)] (Tryz.dq.t 9) #[.pointer (some ⟨g,0,none⟩),.int .i64 l.length]).run Pg w.drew=.ok (.string ⟨l.toArray⟩) (w.drew.freeze ⟨g,0,none⟩ l.length):=by
  refine Lib.run_unsafeString_row w.drew (Tryz.dq.t 127) (Tryz.dq.t 3) (Tryz.dq.t 9) 5 L.t127 X.cellsByte g cur.size (by have Zz:w.drew.heap[g]?=some (.cells cur 5 (0,0)):=hg;simp[World.shape?,Zz]) l h0 (by omega) (by unfold maxLen at VH;omega) ?_
  intro j x hx
  have:=wT j x hx
  have e:(⟨g,0,none⟩:Addr).add j=⟨g,j,none⟩:=by unfold Addr.add;by_cases hj:j=0<;>simp[hj]
  rw[e]
  exact this
 clear wT
 have mixed:=L.mixed
 have t72:=L.t72;have a72:=L.a72;have z72:=L.z72;have v72:=L.v72;have Tw:=run_underlying L.t72
 have t70:=L.t70;have a70:=L.a70;have z70:=L.z70;have v70:=L.v70;have Tx:=run_underlying L.t70
 have t37:=L.t37;have a37:=L.a37;have z37:=L.z37;have v37:=L.v37;have u37:=run_underlying L.t37
 have t127:=L.t127;have a127:=L.a127;have z127:=L.z127;have v127:=L.v127;have aat:=run_underlying L.t127
 have t3:=L.t3;have a3:=L.a3;have z3:=L.z3;have v3:=L.v3;have u3:=run_underlying L.t3
 have t9:=L.t9;have a9:=L.a9;have z9:=L.z9;have v9:=L.v9;have u9:=run_underlying L.t9
 have t5:=X.t5;have a5:=X.a5;have z5:=X.z5;have v5:=X.v5;have u5:=run_underlying X.t5
 go_enter L.f169,Body.n169_ntmps Tryz.dq
 go_wp2
 go_region_o
 all_goals (go_wp2;go_ret;exact⟨rfl,rfl⟩)
set_option maxHeartbeats 2000000 in
theorem Hb(b:Nat)(w:World)(h2:w.cell? ⟨b,2,none⟩=some (.slice none 0 0)) :
  Calls Pg 32 #[.pointer (some ⟨b,1,none⟩)] w fun e w'=>e=.returned (.string ⟨#[]⟩)/\w'=w.drew:=by
 have L:=Tryz.ph
 have X:=Tryz.j8
 have hUS:∀(W:World)(q:Option Addr),(Builtin.unsafeString_ #[(Tryz.dq.t 127),(Tryz.dq.t 3)] (Tryz.dq.t 9) #[.pointer q,.int .i64 0]).run Pg W=.ok (.string .empty) W:=fun W q=>Lib.run_unsafeString_none W _ _ _ q
 have c1:w.drew.cell? ⟨b,2,none⟩=some (.slice none 0 0):=h2
 have hSD:(Builtin.unsafeSliceData_ #[(Tryz.dq.t 37)] (Tryz.dq.t 127) #[.slice none 0 0]).run Pg w.drew=.ok (.pointer none) w.drew:=rfl
 have mixed:=L.mixed
 have t72:=L.t72;have a72:=L.a72;have z72:=L.z72;have v72:=L.v72;have Tw:=run_underlying L.t72
 have t70:=L.t70;have a70:=L.a70;have z70:=L.z70;have v70:=L.v70;have Tx:=run_underlying L.t70
 have t37:=L.t37;have a37:=L.a37;have z37:=L.z37;have v37:=L.v37;have u37:=run_underlying L.t37
 have t127:=L.t127;have a127:=L.a127;have z127:=L.z127;have v127:=L.v127;have aat:=run_underlying L.t127
 have t3:=L.t3;have a3:=L.a3;have z3:=L.z3;have v3:=L.v3;have u3:=run_underlying L.t3
 have t9:=L.t9;have a9:=L.a9;have z9:=L.z9;have v9:=L.v9;have u9:=run_underlying L.t9
 have t5:=X.t5;have a5:=X.a5;have z5:=X.z5;have v5:=X.v5;have u5:=run_underlying X.t5
 go_enter L.f169,Body.n169_ntmps Tryz.dq
 go_wp2
 go_region_o
 all_goals (go_wp2;go_ret;exact⟨rfl,rfl⟩)
section
variable {h:AH} {M:Nat->Prop} {R:AE->AH->Prop} {n0 w:Nat} {rv:AV} {l:List UInt8}
theorem SN(hw:Wr n0 h w rv l)(hM:∀id,SW n0 h id->M id)(hR:∀h',Fr h h' (SW n0 h)->R (.ret (.sc (.string ⟨l.toArray⟩))) h'):aB Pg 32 [.ptr w 1] h M R:=by
 obtain⟨_,p,bv,ho,_,h4⟩:=hw
 intro E wd dR hr ha
 cases ha with
 |cons a1 a2=>
  cases a2
  cases a1 with
  |ptr hB=>
   rename_i B
   obtain⟨B',cO,hO⟩:=hr.obj w _ ho
   rw[hB]at cO;cases cO
   obtain⟨arr,fz,hb,my,hle,vv,dJ⟩:=hO.row rfl
   obtain⟨hz,Qs,fN⟩:=my rfl
   have dJ:=dJ.zero fN
   rw[fN]
   obtain⟨v,hv,gN,nj⟩:=dJ 2 bv rfl
   clear nj
   have vu:wd.cell? ⟨B.b,2,none⟩=some v:=by simp[World.cell?,hb,hv]
   rcases h4 with⟨rfl,rfl⟩ |⟨id,h5,h6,rfl,h8⟩
   ·cases gN
    refine(Hb B.b wd vu).mono ?_
    rintro e w' ⟨rfl,rfl⟩
    exact⟨E,h,.ret (.sc (.string ⟨#[]⟩)),Step.drew hr rfl rfl rfl rfl,.sc _,hR h Fr.refl⟩
   ·cases gN with
    |sl hC Dj hc hlen hm=>
     rename_i o' cap C
     obtain⟨C',ZO,LM⟩:=hr.obj id _ h8
     rw[hC]at ZO;cases ZO
     obtain⟨WQ,fz2,yL,abN,acL,acR,Cl⟩:=LM.row rfl
     obtain⟨hz2,Zm,hC0⟩:=abN rfl
     have Cl:=Cl.zero hC0
     subst hz2
     have hl0:l.length≠0:=by simpa using h5
     have dy:o'=0:=by omega
     subst dy
     have acK:=Cl.get
     have abH:l.length<=WQ.size:=by have:(aI (jl l) 1 5).cells.length=l.length:=zj l;omega
     refine(Gr B.b C.b cap WQ l wd vu yL (fun j x hx=>?_) h5 abH hlen hm).mono ?_
     ·obtain⟨q,hq,hqr,_⟩:=Cl j (.sc (.int .u8 x.toNat)) (by simp[aI,jl,hx])
      cases hqr
      simp[World.cell?,yL,hq]
     rintro e w' ⟨rfl,rfl⟩
     have Og:M id:=hM id ⟨h6,_,h8,rfl,.inr rfl⟩
     have Zd:Step E h M wd E h wd.drew:=Step.drew hr rfl rfl rfl rfl
     have eA:=Step.freeze (M:=M) Zd.rel h8 hC rfl rfl Og l.length
     refine⟨E,_,.ret (.sc (.string ⟨l.toArray⟩)),Zd.trans hr eA (fun _ _ hm=>.inl hm),.sc _,hR _ ⟨zU _,fun i hi hs=>?_⟩⟩
     rw[AH.pn,zW (fun(e:i=id)=>hs (e ▸ ⟨h6,_,h8,rfl,.inr rfl⟩))]
end
end
section
open Go.Ab
def jh(s:ByteArray):Bool:=decide (0<s.size)&&ed (dn s 0)&&(eN fm s 0==s.size)
def fU(s:ByteArray):Bool:=jh s&&!wq s
theorem size_pos{s:ByteArray}(h:¬s=ByteArray.empty):0<s.size:=by
 rcases Nat.eq_zero_or_pos s.size with h1 |h1
 ·exact absurd (by simpa using h1) h
 ·exact h1
theorem BJ:(⟨#[]⟩:ByteArray)=ByteArray.empty:=rfl
section
variable {h:AH} {M:Nat->Prop} {R:AE->AH->Prop} {s:ByteArray}
theorem Lf(hs:s.size<9223372036854775807)(hR:R (.ret (.sc (.bool (jh s)))) h):aB Pg 107 [.sc (.string s)] h M R:=by
 apply JV.calls
 by_cases h0:s=ByteArray.empty
 ·subst h0
  simp[BJ]
  simpa[jh] using hR
 ·have hp:=size_pos h0
  have hb:dn s 0=s[0].toNat:=by simp[dn,hp]
  simp[BJ,h0,hp,-JV.k4]
  refine⟨fun _=>False,fun _ h=>h.elim,sj ?_⟩
  have hg:=hR
  unfold jh at hR
  rw[hb]at hR
  cases hl:ed (s[0].toNat:Nat)
  ·simp[hl]at hR
   simp[hl]
   exact hR
  ·simp[hl,-JV.k2]
   refine⟨fun _=>False,fun _ h=>h.elim,AT Db rfl hs ?_⟩
   simp
   simp[hl,hp]at hR
   have e:(((eN fm s 0:Nat):Int)==(s.size:Int))=(eN fm s 0==s.size):=by
    rw[Bool.eq_iff_iff];simp;omega
   show R (.ret (.sc (.bool (((eN fm s 0:Nat):Int)==(s.size:Int))))) h
   rw[e];exact hR
theorem wg(hs:s.size<9223372036854775807)(hR:R (.ret (.sc (.bool (fU s)))) h):aB Pg 80 [.sc (.string s)] h M R:=by
 apply Re.calls
 simp[-Re.k3]
 refine⟨fun _=>False,fun _ h=>h.elim,Lf hs ?_⟩
 unfold fU at hR
 cases hn:jh s
 ·simp[hn]at hR ⊢;exact hR
 ·simp[hn]at hR
  simp[-Re.k2]
  refine⟨fun _=>False,fun _ h=>h.elim,KR ?_⟩
  simpa using hR
theorem Jz{n:Int}(hR:R (.ret (.sc (.bool (decide (0<=n)&&decide (n<=9007199254740991))))) h):aB Pg 81 [.sc (.int .i64 n)] h M R:=by
 apply F81.calls
 by_cases h1:0<=n<;>by_cases h2:n<=9007199254740991<;>simp[h1,h2]at hR ⊢<;>exact hR
end
end
section
open Go.Ab
structure Shape where
 name:Bool
 num:Bool
 args:Int
 body:Bool
def Shape.enc(s:Shape):List AV:=[.sc (.bool s.name),.sc (.bool s.num),.sc (.int .i64 s.args),.sc (.bool s.body)]
def eD(k:ByteArray):Shape×Bool:=
 if k=aS\/k=bz then(⟨true,true,0,false⟩,true)
 else if k=aN then(⟨true,false,-1,true⟩,true)
 else if k=aG then(⟨false,true,0,true⟩,true)
 else if k=cz then(⟨true,true,0,true⟩,true)
 else if k=aQ then(⟨false,false,2,false⟩,true)
 else if k=bB then(⟨false,false,1,false⟩,true)
 else if k=bw then(⟨true,false,-1,false⟩,true)
 else(⟨false,false,0,false⟩,false)
theorem uS:ke Pg 107=some true:=by kernel_rfl
theorem tX:eM Pg 107=some 4:=by kernel_rfl
section
variable {h:AH} {M:Nat->Prop} {R:AE->AH->Prop}
theorem Kg{s:Shape}{b:Bool}(hR:∀h',Fr h h' (fun _=>False)->R (.ret (.cP [.agg s.enc,.sc (.bool b)])) h') :
  R (.ret (.cP [.agg s.enc,.sc (.bool b)])) ((h.alloc (aI ([.bool false,.bool false,.int .i64 0,.bool false].map AV.sc) 4 107)).put h.next 0 s.enc):=
 hR _ ((Fr.refl.alloc _).put (.inr (zU _)))
theorem AN{k:ByteArray}(hR:∀h',Fr h h' (fun _=>False)->R (.ret (.cP [.agg (eD k).1.enc,.sc (.bool (eD k).2)])) h'):aB Pg 48 [.sc (.string k)] h M R:=by
 apply F48.calls
 unfold eD at hR
 have fin:=fun(s:Shape) (b:Bool) hh=>Kg (h:=h) (R:=R) (s:=s) (b:=b) hh
 by_cases h1:k=aS
 ·subst h1
  simp at hR
  simp[aS,AH.bJ,uS,tX,AH.bK]
  exact fin ⟨true,true,0,false⟩ true hR
 by_cases h2:k=bz
 ·subst h2
  simp at hR
  simp[bz,AH.bJ,uS,tX,AH.bK]
  exact fin ⟨true,true,0,false⟩ true hR
 by_cases h3:k=aN
 ·subst h3
  simp[aS,bz,aN]at hR
  simp[aN,AH.bJ,uS,tX,AH.bK]
  exact fin ⟨true,false,-1,true⟩ true hR
 by_cases h4:k=aG
 ·subst h4
  simp[aS,bz,aN,aG]at hR
  simp[aG,AH.bJ,uS,tX,AH.bK]
  exact fin ⟨false,true,0,true⟩ true hR
 by_cases h5:k=cz
 ·subst h5
  simp[aS,bz,aN,aG,cz]at hR
  simp[cz,AH.bJ,uS,tX,AH.bK]
  exact fin ⟨true,true,0,true⟩ true hR
 by_cases h6:k=aQ
 ·subst h6
  simp[aS,bz,aN,aG,cz,aQ]at hR
  simp[aQ,AH.bJ,uS,tX,AH.bK]
  exact fin ⟨false,false,2,false⟩ true hR
 by_cases h7:k=bB
 ·subst h7
  simp[aS,bz,aN,aG,cz,aQ,bB]at hR
  simp[bB,AH.bJ,uS,tX,AH.bK]
  exact fin ⟨false,false,1,false⟩ true hR
 by_cases h8:k=bw
 ·subst h8
  simp[aS,bz,aN,aG,cz,aQ,bB,bw]at hR
  simp[bw,AH.bJ,uS,tX,AH.bK]
  exact fin ⟨true,false,-1,false⟩ true hR
 simp[h1,h2,h3,h4,h5,h6,h7,h8]at hR
 unfold aS at h1;unfold bz at h2;unfold aN at h3;unfold aG at h4;unfold cz at h5;unfold aQ at h6;unfold bB at h7;unfold bw at h8
 simp[h1,h2,h3,h4,h5,h6,h7,h8,AH.bJ,uS,tX,AH.bK]
 exact fin ⟨false,false,0,false⟩ false hR
end
end
end Go.Proofs.YtjehibknlmehmaaGreatDoor
namespace Go.Ab
variable {P:Program} {α:Type} {f:α->List AV} {sz:Nat} {ty:TypeId} {h:AH} {x:AV} {l:List α} {i:Nat} {y:α} {W:Nat->Prop}
end Go.Ab
namespace Go.Proofs.YtjehibknlmehmaaGreatDoor
section
open Go.Ab
attribute [-simp] aH az
def gG(gate:Bool)(a:Arg):Bool:=fU a.name&&decide (-1<=a.index)&&decide (a.index<=9007199254740991)&&(!gate||decide (a.index=-1))
def lV(n:Int):Bool:=decide (0<=n)&&decide (n<=9007199254740991)
def iC(sh:Shape)(ok:Bool)(r:Row):Bool:=
 ok&&(sh.name==fU r.name)&&(sh.name||decide (r.name=ByteArray.empty))&&(!sh.num||lV r.num)&&(sh.num||decide (r.num=0))&&(decide (sh.args<0)||decide ((r.args.length:Int)=sh.args))&&(sh.body||decide (r.rows=0))
def kf(r:Row):Bool:=iC (eD r.kind).1 (eD r.kind).2 r&&r.args.all (gG (decide (r.kind=aN)))
theorem ib4:nE Pg 4=true:=by kernel_rfl
theorem KM{t:TypeId}{c a b:Bool}{K:AV->Prop}(ht:nE Pg t=true):ag Pg .neq t c (.sc (.bool a)) (.sc (.bool b)) K=K (.sc (.bool (!(a==b)))):=by simp[ag,ht]
theorem la(x y:Int):(x != y)=!decide (x=y):=by by_cases h:x=y<;>simp[h]
section
variable {h:AH} {M W:Nat->Prop} {R:AE->AH->Prop} {QR QN:VK} {QE:Nat->VK} {QP:AV->AH->Prop} {vr vs:Nat} {r:Row} {a:AV} {sh:Shape} {ok:Bool}
theorem Ys{b:Bool}(hv:h.obj vr=some (aI (ay (r,a)) 6 46))(hs:h.obj vs=some (aI sh.enc 4 107))
  (hK:fE.ir W QR QN QE QP (.ptr vr 0) (.ptr vs 0) (.sc (.bool (b||(!sh.name&&!decide (r.name=ByteArray.empty))))) h):fE.iq W QR QN QE QP (.ptr vr 0) (.ptr vs 0) (.sc (.bool b)) h:=by
 revert hK
 cases b<;>cases hx:sh.name<;>by_cases he:r.name=ByteArray.empty<;>intro hK<;>simp[-fE.ir,hv,hs,ay,Shape.enc,BJ,hx,he,la]at hK ⊢<;>exact hK
theorem Yr{b:Bool}(hv:h.obj vr=some (aI (ay (r,a)) 6 46))(hs:h.obj vs=some (aI sh.enc 4 107))
  (hK:fE.ea W QR QN QE QP (.ptr vr 0) (.ptr vs 0) (.sc (.bool (b||(sh.num&&!lV r.num)))) h):fE.ir W QR QN QE QP (.ptr vr 0) (.ptr vs 0) (.sc (.bool b)) h:=by
 revert hK
 cases b<;>cases hx:sh.num<;>intro hK<;>simp[-fE.ea,hv,hs,ay,Shape.enc,BJ,hx]at hK ⊢
 ·exact hK
 ·refine⟨fun _=>False,fun _ h=>h.elim,Jz ?_⟩
  show gM _ (.sc (.bool (lV r.num))) _
  simp[-fE.ea]
  exact hK
 ·exact hK
 ·exact hK
theorem Yp{b:Bool}(hv:h.obj vr=some (aI (ay (r,a)) 6 46))(hs:h.obj vs=some (aI sh.enc 4 107))
  (hK:fE.cX W QR QN QE QP (.ptr vr 0) (.ptr vs 0) (.sc (.bool (b||(!sh.num&&!decide (r.num=0))))) h):fE.ea W QR QN QE QP (.ptr vr 0) (.ptr vs 0) (.sc (.bool b)) h:=by
 revert hK
 cases b<;>cases hx:sh.num<;>by_cases he:r.num=0<;>intro hK<;>simp[-fE.cX,hv,hs,ay,Shape.enc,hx,he,la]at hK ⊢<;>exact hK
theorem Yo{b:Bool}(hv:h.obj vr=some (aI (ay (r,a)) 6 46))(hs:h.obj vs=some (aI sh.enc 4 107))(ha:a_ a=false/\∀K:AV->Prop,bO a K=K (.sc (.int .i64 r.args.length)))
  (hK:fE.cN W QR QN QE QP (.ptr vr 0) (.ptr vs 0) (.sc (.bool (b||(decide (0<=sh.args)&&!decide ((r.args.length:Int)=sh.args))))) h):fE.cX W QR QN QE QP (.ptr vr 0) (.ptr vs 0) (.sc (.bool b)) h:=by
 revert hK
 cases b<;>by_cases hx:0<=sh.args<;>by_cases he:(r.args.length:Int)=sh.args<;>intro hK<;>simp[-fE.cN,hv,hs,ay,Shape.enc,hx,he,ha.1,ha.2,la]at hK ⊢<;>exact hK
theorem Yn{b:Bool}(hv:h.obj vr=some (aI (ay (r,a)) 6 46))(hs:h.obj vs=some (aI sh.enc 4 107))
  (hK:fE.bX W QR QN QE QP (.ptr vr 0) (.sc (.bool (b||(!sh.body&&!decide (r.rows=0))))) h):fE.cN W QR QN QE QP (.ptr vr 0) (.ptr vs 0) (.sc (.bool b)) h:=by
 revert hK
 cases b<;>cases hx:sh.body<;>by_cases he:r.rows=0<;>intro hK<;>simp[-fE.bX,hv,hs,ay,Shape.enc,hx,he,la]at hK ⊢<;>exact hK
theorem Pf(hv:h.obj vr=some (aI (ay (r,a)) 6 46))(hs:h.obj vs=some (aI sh.enc 4 107))(ha:a_ a=false/\∀K:AV->Prop,bO a K=K (.sc (.int .i64 r.args.length)))(hn:r.name.size<9223372036854775807)
  (hf:iC sh ok r=false->QR [.sc (.bool false)] h) (ht:iC sh ok r=true->fE.bW W QR QN QE QP (.ptr vr 0) h):fE.jo W QR QN QE QP (.ptr vr 0) (.ptr vs 0) (.sc (.bool ok)) h:=by
 have key:∀b:Bool,b=(!ok||!(sh.name==fU r.name))->fE.iq W QR QN QE QP (.ptr vr 0) (.ptr vs 0) (.sc (.bool b)) h:=by
  intro b hb
  refine Ys hv hs (Yr hv hs (Yp hv hs (Yo hv hs ha (Yn hv hs ?_))))
  have he:(((((b||(!sh.name&&!decide (r.name=ByteArray.empty)))||(sh.num&&!lV r.num))||(!sh.num&&!decide (r.num=0)))||(decide (0<=sh.args)&&!decide ((r.args.length:Int)=sh.args)))||(!sh.body&&!decide (r.rows=0)))=!iC sh ok r:=by
   rw[hb];unfold iC
   have:decide (sh.args<0)=!decide (0<=sh.args):=by by_cases hx:sh.args<0<;>by_cases hy:0<=sh.args<;>simp[hx,hy]<;>omega
   rw[this]
   simp only[Bool.not_and,Bool.not_or,Bool.not_not]
  rw[he]
  cases hh:iC sh ok r with
  |true=>simp[-fE.bW];exact ht hh
  |false=>simp[-fE.bW];exact hf hh
 cases ok with
 |false=>
  simp[-fE.iq]
  exact key true (by simp)
 |true=>
 simp[-fE.iq,hs,hv,ay,Shape.enc]
 refine⟨fun _=>False,fun _ h=>h.elim,wg hn ?_⟩
 simp only[KM ib4]
 have:=key _ rfl
 simpa[-fE.iq] using this
theorem S6{i n:Nat}{x:AV}{va:Nat}{g:Arg}(hv:h.obj vr=some (aI (ay (r,a)) 6 46))(hg:h.obj va=some (aI g.enc 2 67))(hn:g.name.size<9223372036854775807)
  (hf:gG (decide (r.kind=aN)) g=false->QR [.sc (.bool false)] h) (ht:gG (decide (r.kind=aN)) g=true->fE.n2 W QR QN QE QP (.ptr vr 0) x (.sc (.int .i64 n)) (.sc (.int .i64 i)) h) :
  fE.br W QR QN QE QP (.ptr vr 0) (.ptr va 0) x (.sc (.int .i64 n)) (.sc (.int .i64 i)) h:=by
 have fin:∀b:Bool,b=!gG (decide (r.kind=aN)) g->fE.n4 W QR QN QE QP (.ptr vr 0) x (.sc (.int .i64 n)) (.sc (.int .i64 i)) (.sc (.bool b)) h:=by
  intro b hb
  cases hh:gG (decide (r.kind=aN)) g with
  |true=>rw[hb,hh];simp[-fE.n2];exact ht hh
  |false=>rw[hb,hh];simp[-fE.n2];exact hf hh
 unfold gG at fin
 simp[-fE.ba,hg,Arg.enc]
 refine⟨fun _=>False,fun _ h=>h.elim,wg hn ?_⟩
 simp[-fE.n4,hg,hv,ay,Arg.enc]
 by_cases h1:fU g.name=true
 ·by_cases h2:g.index < -1
  ·simp[-fE.n4,h1,h2]
   exact fin true (by simp[h1];omega)
  ·by_cases h3:9007199254740991<g.index
   ·simp[-fE.n4,h1,h2,h3]
    exact fin true (by simp[h1];omega)
   ·by_cases h4:r.kind=aN
    ·simp[-fE.n4,h1,h2,h3,h4,aN,la]
     refine fin _ ?_
     have e2:-1<=g.index:=by omega
     have e3:g.index<=9007199254740991:=by omega
     simp[h1,h4,e2,e3]
    ·simp[-fE.n4,h1,h2,h3,h4]
     have e2:-1<=g.index:=by omega
     have e3:g.index<=9007199254740991:=by omega
     exact fin _ (by simp[h1,h4,e2,e3])
 ·simp[-fE.n4,h1]
  exact fin true (by simp[h1])
theorem Pe{y:Row×AV}(hW:∀id,h.next<=id->W id)(hv:h.obj vr=some (aI (ay y) 6 46))(ha:cb Arg.enc 2 67 h y.2 y.1.args)(hn:∀g∈y.1.args,g.name.size<9223372036854775807)(hl:y.1.args.length<=1000000000)
  (hR:∀h',Fr h h' (fun _=>False)->QR [.sc (.bool (y.1.args.all (gG (decide (y.1.kind=aN)))))] h'):fE.bW W QR QN QE QP (.ptr vr 0) h:=by
 simp[hv,ay,ha.len.1,ha.len.2]
 unfold fE.bN
 refine cJ (ι:=Nat) (fun i vs h'=>vs=[.ptr vr 0,y.2,.sc (.int .i64 y.1.args.length),.sc (.int .i64 i)]/\i<=y.1.args.length/\Fr h h' (fun _=>False)/\(y.1.args.drop i).all (gG (decide (y.1.kind=aN)))=y.1.args.all (gG (decide (y.1.kind=aN)))) (fun i=>y.1.args.length-i) 0 ?_ ?_
 ·exact⟨rfl,by omega,Fr.refl,rfl⟩
 rintro K i vs h' ⟨rfl,hi,hf,he⟩ hK
 simp only[fE.cT,zN,zO]
 by_cases aJ:i<y.1.args.length
 ·have dZ:(i:Int)<y.1.args.length:=by omega
  have g1:y.1.args[i]?=some y.1.args[i]:=zJ aJ
  rw[List.drop_eq_getElem_cons aJ,List.all_cons]at he
  have hgn:=hn _ (List.getElem_mem aJ)
  generalize y.1.args[i]=g at *
  simp[-fE.bF,dZ]
  refine iK (ha.be hf) Arg.b8 (Arg.h_ _) g1 rfl rfl (fun id hid=>hW id (zR hf.next hid)) fun vn h2 f2 rA hov=>?_
  have LD:Fr h h2 (fun _=>False):=hf.trans (f2.mono fun _ h=>h.elim)
  refine S6 (r:=y.1) (a:=y.2) (LD.obj hv (fun h=>h)) hov hgn (fun hb=>?_) (fun hb=>?_)
  ·rw[hb]at he
   have:=hR h2 LD
   rw[<-he]at this
   exact this
  ·rw[hb]at he
   have hw:IntKind.i64.wrap ((i:Int)+1)=((i+1:Nat):Int):=by rw[aX (by omega) (by omega)];simp
   simp[hw]
   exact hK (i+1) _ _ (by omega) ⟨by simp,by omega,LD,by simpa using he⟩
 ·have eG:¬(i:Int)<y.1.args.length:=by omega
  rw[List.drop_eq_nil_of_le (by omega)]at he
  simp[eG]
  have:=hR h' hf
  rw[<-he]at this
  exact this
theorem w9{y:Row×AV}(ha:cb Arg.enc 2 67 h y.2 y.1.args):(ay y).all cF=true:=by
 show(true&&(true&&(cF y.2&&(true&&(true&&(true&&true))))))=true
 rw[ha.one.1];rfl
theorem Nn{y:Row×AV}{R:AE->AH->Prop}(ha:cb Arg.enc 2 67 h y.2 y.1.args)(hn:y.1.name.size<9223372036854775807)(hna:∀g∈y.1.args,g.name.size<9223372036854775807)(hl:y.1.args.length<=1000000000)
  (hR:∀h',Fr h h' (fun _=>False)->R (.ret (.sc (.bool (kf y.1)))) h'):aB Pg 49 [.agg (ay y)] h M R:=by
 apply fE.aO
 unfold fE.kJ
 have nj:=w9 ha
 refine dF nj fun vr h1 f1 gN ov=>?_
 simp[-fE.jo,ov,ay]
 refine⟨fun _=>False,fun _ h=>h.elim,AN fun h2 f2=>?_⟩
 simp only[c9,ab,zA,zB]
 refine fV (by rfl) rfl rfl rfl (fun id hid=>.inr (by have:=f1.next;have:=f2.next;omega)) fun vs h3 f3 wH os=>?_
 have g3:=f1.bQ (f2.bQ f3)
 refine Pf (r:=y.1) (a:=y.2) ((f2.bQ f3).bI ov) os ⟨ha.len.1,ha.len.2⟩ hn (fun hb=>?_) (fun hb=>?_)
 ·simp
  have:=hR h3 g3
  unfold kf at this
  rw[hb]at this
  exact this
 ·refine Pe (y:=y) (fun id hid=>.inr (by have:=g3.next;omega)) ((f2.bQ f3).bI ov) (ha.be g3) hna hl fun h4 f4=>?_
  simp
  have:=hR h4 (g3.bQ f4)
  unfold kf at this
  rw[hb]at this
  exact this
end
end
section
open Go.Ab
attribute [-simp] aH az
end
section
open Go.Ab
attribute [-simp] aH az
def mG(r:Row):Bool:=kf r&&decide (0<=r.rows)
section
variable {h:AH} {M W:Nat->Prop} {R:AE->AH->Prop} {QR QN:VK} {QE:Nat->VK} {QP:AV->AH->Prop} {vr:Nat} {r:Row} {a:AV} {sh:Shape} {b:Bool}
abbrev B(b:Bool):AV:=.sc (.bool b)
abbrev I(n:Int):AV:=.sc (.int .i64 n)
theorem oY{s:ByteArray}(h:fU s=true):s≠ByteArray.empty:=by
 intro e
 subst e
 simp[fU,jh]at h
end
end
section
open Go.Ab
attribute [-simp] aH az
abbrev bs(l:List UInt8):ByteArray:=⟨l.toArray⟩
abbrev ls(s:ByteArray):List UInt8:=s.data.toList
abbrev S(l:List UInt8):AV:=.sc (.string (bs l))
theorem Wq(a b:List UInt8):bs a++bs b=bs (a++b):=by
 apply ByteArray.ext;simp[bs]
theorem xZ(l:List UInt8):(bs l).size=l.length:=rfl
theorem Yc{t:TypeId}{c:Bool}{a b:List UInt8}{K:AV->Prop}:ag Pg .add t c (S a) (S b) K=(a.length+b.length<9223372036854775808/\K (S (a++b))):=by
 rw[r_,Wq];rfl
section
variable {h:AH} {M W:Nat->Prop} {R:AE->AH->Prop} {QR QN:VK} {QE:Nat->VK} {QP:AV->AH->Prop} {vr:Nat} {r:Row} {a:AV} {sh:Shape} {b:Bool}
def ta(g:Arg):List UInt8:=ls g.name++(if g.index<0 then[] else 91::(Lib.itoa g.index++[93]))
end
end
section
open Go.Ab
attribute [-simp] aH az
def mq(l:List Arg):List UInt8:=l.flatMap fun g=>32::ta g
def ld(k:ByteArray):Bool:=decide (k=aS)||decide (k=bz)||decide (k=aG)||decide (k=cz)
def nf(r:Row):List UInt8:=if r.kind=bw then ls r.name else if r.name=ByteArray.empty then ls r.kind else ls r.kind++32::ls r.name
def kh(r:Row):List UInt8:=nf r++(if ld r.kind then 32::Lib.itoa r.num else[])++mq r.args
structure uX (r:Row):Prop where
 kind:r.kind.size<=100000
 name:r.name.size<=100000
 args:∀g∈r.args,g.name.size<=100000
 len:r.args.length<=90000
 all:(r.args.map fun g=>g.name.size+30).sum<=10000000
def Av(r:Row):Prop:=∀g∈r.args,g.index<=9007199254740991
theorem OZ{g:Arg}(h:g.index<=9007199254740991):(ta g).length+1<=g.name.size+30:=by
 have e:(ls g.name).length=g.name.size:=rfl
 unfold ta
 by_cases hi:g.index<0
 ·simp only[hi,zV,List.append_nil];omega
 ·have:=Lib.itoa_length_le g.index (by omega) (by omega)
  simp only[hi,if_false,List.length_append,List.length_cons,List.length_nil];omega
theorem xu:∀{l:List Arg},(∀g∈l,g.index<=9007199254740991)->(mq l).length<=(l.map fun g=>g.name.size+30).sum
 |[],_=>by simp[mq]
 |g::l,h=>by
  have h1:=OZ (h g (by simp))
  have h2:=xu (l:=l) (fun g hg=>h g (by simp[hg]))
  have e:mq (g::l)=(32::ta g)++mq l:=by simp[mq]
  rw[e]
  simp only[List.length_append,List.length_cons,List.map_cons,List.sum_cons]
  omega
end
section
open Go.Ab
attribute [-simp] aH az
def fu(k:ByteArray):Bool:=decide (k=aN)||decide (k=aG)||decide (k=cz)
def di(d:Nat)(rows:List Row):Bool:=
 match rows with
 |[]=>true
 |r::rest=>decide (d<=32)&&mG r&&decide (r.rows<=rest.length)&&di (d+1) (rest.take r.rows.toNat)&&!(fu r.kind&&decide (32<=d))&&di d (rest.drop r.rows.toNat)
termination_by rows.length
decreasing_by all_goals (simp only[yA,List.length_drop,List.length_cons];omega)
def fK(ind:List UInt8)(rows:List Row):List UInt8:=
 match rows with
 |[]=>[]
 |r::rest=>ind++kh r++(if fu r.kind then[32,123,10]++fK (ind++[32,32]) (rest.take r.rows.toNat)++ind++[125,10] else[59,10])++fK ind (rest.drop r.rows.toNat)
termination_by rows.length
decreasing_by all_goals (simp only[yA,List.length_drop,List.length_cons];omega)
section
variable {α:Type}
def qu(l:List α)(i j:Nat):List α:=(l.drop i).take (j-i)
theorem Ni{l:List α}{i j:Nat}(hi:i<j)(hj:j<=l.length):qu l i j=l[i]::qu l (i+1) j:=by
 unfold qu
 rw[List.drop_eq_getElem_cons (by omega),show j-i=(j-(i+1))+1 by omega,List.take_succ_cons]
theorem RA{l:List α}{i j:Nat}(hi:i<=j)(hj:j<=l.length):(qu l i j).length=j-i:=by
 unfold qu;simp;omega
theorem Ng{l:List α}{i j k:Nat}(hk:i+k<=j):(qu l i j).take k=qu l i (i+k):=by
 unfold qu
 rw[List.take_take,show min k (j-i)=k by omega,show i+k-i=k by omega]
theorem Nh{l:List α}{i j k:Nat}(hk:i+k<=j):(qu l i j).drop k=qu l (i+k) j:=by
 unfold qu
 rw[List.drop_take,List.drop_drop,show j-i-k=j-(i+k) by omega]
theorem Hq{l:List α}{i j:Nat}(h:j<=i):qu l i j=[]:=by
 unfold qu;rw[show j-i=0 by omega];rfl
theorem RB{l:List α}:qu l 0 l.length=l:=by unfold qu;simp
end
structure ou (h:AH) (x:AV) (l:List (Row×AV)):Prop where
 dQ:cb ay 6 46 h x l
 args:∀y∈l,cb Arg.enc 2 67 h y.2 y.1.args
theorem ou.be{h h':AH}{x:AV}{l:List (Row×AV)}(a:ou h x l)(hf:Fr h h' fun _=>False):ou h' x l:=⟨a.dQ.be hf,fun y hy=>(a.args y hy).be hf⟩
abbrev iU(l:List (Row×AV))(i j:Nat):List Row:=(qu l i j).map (·.1)
theorem Ry{l:List (Row×AV)}{i j:Nat}(hi:i<j)(hj:j<=l.length):iU l i j=(l[i]'(by omega)).1::iU l (i+1) j:=by unfold iU;rw[Ni hi hj];rfl
theorem Na{l:List (Row×AV)}{i j k:Nat}(hk:i+k<=j):(iU l i j).take k=iU l i (i+k):=by unfold iU;rw[<-List.map_take,Ng hk]
theorem Nb{l:List (Row×AV)}{i j k:Nat}(hk:i+k<=j):(iU l i j).drop k=iU l (i+k) j:=by unfold iU;rw[<-List.map_drop,Nh hk]
theorem Rx{l:List (Row×AV)}{i j:Nat}(hi:i<=j)(hj:j<=l.length):(iU l i j).length=j-i:=by unfold iU;rw[zZ,RA hi hj]
section
variable {h:AH} {M W:Nat->Prop} {R:AE->AH->Prop} {QR QN:VK} {QE:Nat->VK} {QP:AV->AH->Prop} {vr:Nat} {x:AV} {y:Row×AV}
theorem ym{d:Nat}{r:Row}{rest:List Row}:di d (r::rest)=(decide (d<=32)&&mG r&&decide (r.rows<=rest.length)&&di (d+1) (rest.take r.rows.toNat)&&!(fu r.kind&&decide (32<=d))&&di d (rest.drop r.rows.toNat)):=by
 rw[di]
theorem A6{d:Nat}:di d []=true:=by rw[di]
theorem Ox{r:Row}(h:mG r=true):0<=r.rows:=by
 unfold mG at h;simp at h;exact h.2
end
end
section
open Go.Ab
attribute [-simp] aH az
theorem Cn{r:Row}(hf:mG r=true):0<=r.num/\r.num<=9007199254740991/\Av r:=by
 unfold mG kf iC lV at hf
 simp only[yC]at hf
 obtain⟨⟨h1,h2⟩,_⟩:=hf
 have hI:Av r:=by
  intro g hg
  have:=List.all_eq_true.1 h2 g hg
  unfold gG at this
  simp only[yC,decide_eq_true_eq]at this
  exact this.1.2
 obtain⟨⟨⟨⟨⟨_,_⟩,h3⟩,h4⟩,_⟩,_⟩:=h1
 cases hs:(eD r.kind).1.num with
 |true=>
  rw[hs]at h3
  simp at h3
  exact⟨h3.1,h3.2,hI⟩
 |false=>
  rw[hs]at h4
  simp at h4
  exact⟨by omega,by omega,hI⟩
theorem xM{d:Nat}{r:Row}{rest:List Row}(h:di d (r::rest)=true):d<=32/\mG r=true/\0<=r.rows/\r.rows<=rest.length/\di (d+1) (rest.take r.rows.toNat)=true/\(fu r.kind=true->d<32)/\di d (rest.drop r.rows.toNat)=true:=by
 rw[ym]at h
 simp only[yC,decide_eq_true_eq,Bool.not_eq_true',Bool.and_eq_false_iff,decide_eq_false_iff_not]at h
 obtain⟨⟨⟨⟨⟨h1,h2⟩,h3⟩,h4⟩,h5⟩,h6⟩:=h
 refine⟨h1,h2,Ox h2,h3,h4,fun hb=>?_,h6⟩
 rcases h5 with h5 |h5
 ·rw[hb]at h5;cases h5
 ·omega
theorem tW{ind:List UInt8}{r:Row}{rest:List Row}:fK ind (r::rest)=ind++kh r++(if fu r.kind then[32,123,10]++fK (ind++[32,32]) (rest.take r.rows.toNat)++ind++[125,10] else[59,10])++fK ind (rest.drop r.rows.toNat):=by
 rw[fK]
theorem vY{ind:List UInt8}:fK ind []=[]:=by rw[fK]
section
variable {h:AH} {M W:Nat->Prop} {R:AE->AH->Prop} {QR QN:VK} {QE:Nat->VK} {QP:AV->AH->Prop} {vr:Nat} {x:AV} {y:Row×AV}
theorem TH{l:List (Row×AV)}:iU l 0 l.length=l.map (·.1):=by unfold iU;rw[RB]
def rW(rows:List Row):List AV:=
 if di 0 rows then(if (fK [] rows).length<=65536 then[S (fK [] rows),I 0] else[S [],I 1]) else[S [],I 100]
end
end
end Go.Proofs.YtjehibknlmehmaaGreatDoor
