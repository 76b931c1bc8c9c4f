/- Library functions of strings by the shelf; what a row of a program is; the document's text of rows. No condition. -/
import Derived.Shelf.Strconv.Itoa3
import Derived.Shelf.Strings.Repeat
import Derived.Shelf.Strings.OnBuilder
import Derived.Test.YtjehibknlmehmaaGreatDoorProg
import Derived.Lib.ItoaLen
import Derived.Test.YtjehibknlmehmaaGreatDoorGr
import Derived.Test.YtjehibknlmehmaaGreatDoorWa
set_option maxRecDepth 100000
namespace Go.Proofs
open Go.Shelf
def Tryz.GG:Go.Shelf.Ren:={ f:=fun x=>match x with |171=>29 |243=>47 |246=>79 |283=>103 |284=>104 |285=>105 |286=>106 |129=>122 |317=>121 |318=>123 |319=>124 |320=>125 |337=>132 |338=>133 |n=>n,t:=fun x=>match x with |3=>3 |9=>9 |2=>2 |4=>4 |171=>163 |0=>0 |53=>36 |37=>73 |5=>5 |173=>166 |212=>178 |51=>179 |20=>20 |213=>180 |46=>159 |232=>191 |233=>192 |n=>n,g:=fun x=>match x with |17=>0 |18=>2 |19=>3 |n=>n }
theorem Tryz.Rz:LaysM.n171 Tryz.prog Tryz.GG where
 mixed:=by kernel_rfl
 f129:=Tryz.func122.trans (congrArg some (by kernel_rfl))
 f171:=Tryz.func29.trans (congrArg some (by kernel_rfl))
 f243:=Tryz.func47.trans (congrArg some (by kernel_rfl))
 f246:=Tryz.func79.trans (congrArg some (by kernel_rfl))
 f283:=Tryz.func103.trans (congrArg some (by kernel_rfl))
 f284:=Tryz.func104.trans (congrArg some (by kernel_rfl))
 f285:=Tryz.func105.trans (congrArg some (by kernel_rfl))
 f286:=Tryz.func106.trans (congrArg some (by kernel_rfl))
 f317:=Tryz.func121.trans (congrArg some (by kernel_rfl))
 f318:=Tryz.func123.trans (congrArg some (by kernel_rfl))
 f319:=Tryz.func124.trans (congrArg some (by kernel_rfl))
 f320:=Tryz.func125.trans (congrArg some (by kernel_rfl))
 f337:=Tryz.func132.trans (congrArg some (by kernel_rfl))
 f338:=Tryz.func133.trans (congrArg some (by kernel_rfl))
 t0:=Tryz.underlying0
 a0:=Tryz.isAgg0
 z0:=Tryz.sizeOf0
 v0:=Tryz.zeroValue0
 t2:=Tryz.underlying2
 a2:=Tryz.isAgg2
 z2:=Tryz.sizeOf2
 v2:=Tryz.zeroValue2
 t3:=Tryz.underlying3
 a3:=Tryz.isAgg3
 z3:=Tryz.sizeOf3
 v3:=Tryz.zeroValue3
 t4:=Tryz.underlying4
 a4:=Tryz.isAgg4
 z4:=Tryz.sizeOf4
 v4:=Tryz.zeroValue4
 t5:=Tryz.underlying5
 a5:=Tryz.isAgg5
 z5:=Tryz.sizeOf5
 v5:=Tryz.zeroValue5
 t9:=Tryz.underlying9
 a9:=Tryz.isAgg9
 z9:=Tryz.sizeOf9
 v9:=Tryz.zeroValue9
 t20:=Tryz.underlying20
 a20:=Tryz.isAgg20
 z20:=Tryz.sizeOf20
 v20:=Tryz.zeroValue20
 t37:=Tryz.underlying73
 a37:=Tryz.isAgg73
 z37:=Tryz.sizeOf73
 v37:=Tryz.zeroValue73
 t46:=Tryz.underlying159
 a46:=Tryz.isAgg159
 z46:=Tryz.sizeOf159
 v46:=Tryz.zeroValue159
 t51:=Tryz.underlying179
 a51:=Tryz.isAgg179
 z51:=Tryz.sizeOf179
 v51:=Tryz.zeroValue179
 t53:=Tryz.underlying36
 a53:=Tryz.isAgg36
 z53:=Tryz.sizeOf36
 v53:=Tryz.zeroValue36
 t171:=Tryz.underlying163
 a171:=Tryz.isAgg163
 z171:=Tryz.sizeOf163
 v171:=Tryz.zeroValue163
 t173:=Tryz.underlying166
 a173:=Tryz.isAgg166
 z173:=Tryz.sizeOf166
 v173:=Tryz.zeroValue166
 t212:=Tryz.underlying178
 a212:=Tryz.isAgg178
 z212:=Tryz.sizeOf178
 v212:=Tryz.zeroValue178
 t213:=Tryz.underlying180
 a213:=Tryz.isAgg180
 z213:=Tryz.sizeOf180
 t232:=Tryz.underlying191
 a232:=Tryz.isAgg191
 z232:=Tryz.sizeOf191
 v232:=Tryz.zeroValue191
 t233:=Tryz.underlying192
 a233:=Tryz.isAgg192
 z233:=Tryz.sizeOf192
 v233:=Tryz.zeroValue192
 g17:=by kernel_rfl
 g18:=by kernel_rfl
 g19:=by kernel_rfl
 i0:=by kernel_rfl
 i2:=by kernel_rfl
 i3:=by kernel_rfl
 i4:=by kernel_rfl
 i5:=by kernel_rfl
 i9:=by kernel_rfl
 i20:=by kernel_rfl
 i37:=by kernel_rfl
 i46:=by kernel_rfl
 i51:=by kernel_rfl
 i53:=by kernel_rfl
 i171:=by kernel_rfl
 i173:=by kernel_rfl
 i212:=by kernel_rfl
 i232:=by kernel_rfl
 i233:=by kernel_rfl
 m17:=by kernel_rfl
 m18:=by kernel_rfl
 m19:=by kernel_rfl
def Tryz.dz:Go.Shelf.Ren:={ f:=fun x=>match x with |156=>82 |165=>108 |166=>84 |169=>32 |240=>111 |241=>126 |276=>130 |277=>134 |n=>n,t:=fun x=>match x with |31=>125 |9=>9 |3=>3 |4=>4 |0=>0 |20=>20 |72=>75 |76=>148 |70=>72 |37=>73 |75=>147 |127=>112 |164=>186 |5=>5 |80=>80 |n=>n,g:=fun n=>n }
theorem Tryz.pj:Lays.n156 Tryz.prog Tryz.dz where
 mixed:=by kernel_rfl
 f156:=Tryz.func82.trans (congrArg some (by kernel_rfl))
 f165:=Tryz.func108.trans (congrArg some (by kernel_rfl))
 f166:=Tryz.func84.trans (congrArg some (by kernel_rfl))
 f169:=Tryz.func32.trans (congrArg some (by kernel_rfl))
 f240:=Tryz.func111.trans (congrArg some (by kernel_rfl))
 f241:=Tryz.func126.trans (congrArg some (by kernel_rfl))
 f276:=Tryz.func130.trans (congrArg some (by kernel_rfl))
 f277:=Tryz.func134.trans (congrArg some (by kernel_rfl))
 t0:=Tryz.underlying0
 a0:=Tryz.isAgg0
 z0:=Tryz.sizeOf0
 v0:=Tryz.zeroValue0
 t3:=Tryz.underlying3
 a3:=Tryz.isAgg3
 z3:=Tryz.sizeOf3
 v3:=Tryz.zeroValue3
 t4:=Tryz.underlying4
 a4:=Tryz.isAgg4
 z4:=Tryz.sizeOf4
 v4:=Tryz.zeroValue4
 t9:=Tryz.underlying9
 a9:=Tryz.isAgg9
 z9:=Tryz.sizeOf9
 v9:=Tryz.zeroValue9
 t20:=Tryz.underlying20
 a20:=Tryz.isAgg20
 z20:=Tryz.sizeOf20
 v20:=Tryz.zeroValue20
 t31:=Tryz.underlying125
 a31:=Tryz.isAgg125
 z31:=Tryz.sizeOf125
 v31:=Tryz.zeroValue125
 t37:=Tryz.underlying73
 a37:=Tryz.isAgg73
 z37:=Tryz.sizeOf73
 v37:=Tryz.zeroValue73
 t70:=Tryz.underlying72
 a70:=Tryz.isAgg72
 z70:=Tryz.sizeOf72
 v70:=Tryz.zeroValue72
 t72:=Tryz.underlying75
 a72:=Tryz.isAgg75
 z72:=Tryz.sizeOf75
 v72:=Tryz.zeroValue75
 t75:=Tryz.underlying147
 a75:=Tryz.isAgg147
 z75:=Tryz.sizeOf147
 v75:=Tryz.zeroValue147
 t76:=Tryz.underlying148
 a76:=Tryz.isAgg148
 z76:=Tryz.sizeOf148
 v76:=Tryz.zeroValue148
 t127:=Tryz.underlying112
 a127:=Tryz.isAgg112
 z127:=Tryz.sizeOf112
 v127:=Tryz.zeroValue112
 t164:=Tryz.underlying186
 a164:=Tryz.isAgg186
 z164:=Tryz.sizeOf186
 v164:=Tryz.zeroValue186
def Tryz.tl:Go.Shelf.Ren:={ f:=fun x=>match x with |105=>83 |212=>109 |99=>110 |165=>108 |166=>84 |170=>31 |169=>32 |263=>127 |264=>128 |206=>129 |240=>111 |241=>126 |276=>130 |277=>134 |n=>n,t:=fun x=>match x with |9=>9 |3=>3 |4=>4 |20=>20 |0=>0 |46=>159 |109=>168 |5=>5 |72=>75 |76=>148 |51=>179 |146=>182 |53=>36 |148=>184 |70=>72 |37=>73 |75=>147 |127=>112 |164=>186 |80=>80 |n=>n,g:=fun n=>n }
theorem Tryz.RB:Lays.n105 Tryz.prog Tryz.tl where
 mixed:=by kernel_rfl
 f99:=Tryz.func110.trans (congrArg some (by kernel_rfl))
 f105:=Tryz.func83.trans (congrArg some (by kernel_rfl))
 f165:=Tryz.func108.trans (congrArg some (by kernel_rfl))
 f166:=Tryz.func84.trans (congrArg some (by kernel_rfl))
 f169:=Tryz.func32.trans (congrArg some (by kernel_rfl))
 f170:=Tryz.func31.trans (congrArg some (by kernel_rfl))
 f206:=Tryz.func129.trans (congrArg some (by kernel_rfl))
 f212:=Tryz.func109.trans (congrArg some (by kernel_rfl))
 f240:=Tryz.func111.trans (congrArg some (by kernel_rfl))
 f241:=Tryz.func126.trans (congrArg some (by kernel_rfl))
 f263:=Tryz.func127.trans (congrArg some (by kernel_rfl))
 f264:=Tryz.func128.trans (congrArg some (by kernel_rfl))
 f276:=Tryz.func130.trans (congrArg some (by kernel_rfl))
 f277:=Tryz.func134.trans (congrArg some (by kernel_rfl))
 t0:=Tryz.underlying0
 a0:=Tryz.isAgg0
 z0:=Tryz.sizeOf0
 v0:=Tryz.zeroValue0
 t3:=Tryz.underlying3
 a3:=Tryz.isAgg3
 z3:=Tryz.sizeOf3
 v3:=Tryz.zeroValue3
 t4:=Tryz.underlying4
 a4:=Tryz.isAgg4
 z4:=Tryz.sizeOf4
 v4:=Tryz.zeroValue4
 t5:=Tryz.underlying5
 a5:=Tryz.isAgg5
 z5:=Tryz.sizeOf5
 v5:=Tryz.zeroValue5
 t9:=Tryz.underlying9
 a9:=Tryz.isAgg9
 z9:=Tryz.sizeOf9
 v9:=Tryz.zeroValue9
 t20:=Tryz.underlying20
 a20:=Tryz.isAgg20
 z20:=Tryz.sizeOf20
 v20:=Tryz.zeroValue20
 t37:=Tryz.underlying73
 a37:=Tryz.isAgg73
 z37:=Tryz.sizeOf73
 v37:=Tryz.zeroValue73
 t46:=Tryz.underlying159
 a46:=Tryz.isAgg159
 z46:=Tryz.sizeOf159
 v46:=Tryz.zeroValue159
 t51:=Tryz.underlying179
 a51:=Tryz.isAgg179
 z51:=Tryz.sizeOf179
 v51:=Tryz.zeroValue179
 t53:=Tryz.underlying36
 a53:=Tryz.isAgg36
 z53:=Tryz.sizeOf36
 v53:=Tryz.zeroValue36
 t70:=Tryz.underlying72
 a70:=Tryz.isAgg72
 z70:=Tryz.sizeOf72
 v70:=Tryz.zeroValue72
 t72:=Tryz.underlying75
 a72:=Tryz.isAgg75
 z72:=Tryz.sizeOf75
 v72:=Tryz.zeroValue75
 t75:=Tryz.underlying147
 a75:=Tryz.isAgg147
 z75:=Tryz.sizeOf147
 v75:=Tryz.zeroValue147
 t76:=Tryz.underlying148
 a76:=Tryz.isAgg148
 z76:=Tryz.sizeOf148
 v76:=Tryz.zeroValue148
 t109:=Tryz.underlying168
 a109:=Tryz.isAgg168
 z109:=Tryz.sizeOf168
 v109:=Tryz.zeroValue168
 t127:=Tryz.underlying112
 a127:=Tryz.isAgg112
 z127:=Tryz.sizeOf112
 v127:=Tryz.zeroValue112
 t146:=Tryz.underlying182
 a146:=Tryz.isAgg182
 z146:=Tryz.sizeOf182
 v146:=Tryz.zeroValue182
 t148:=Tryz.underlying184
 a148:=Tryz.isAgg184
 z148:=Tryz.sizeOf184
 v148:=Tryz.zeroValue184
 t164:=Tryz.underlying186
 a164:=Tryz.isAgg186
 z164:=Tryz.sizeOf186
 v164:=Tryz.zeroValue186
theorem Tryz.ti:(Tryz.tl).f 105=83:=rfl
end Go.Proofs
namespace Go.Ab
open Go.RowKit
theorem Step.ML{E:Env}{h:AH}{M:Nat->Prop}{w w':World}(hr:Rel E h w)(hb:Below w.heap.size w w'):Step E h M w E h w' where
 env _ _ h:=h
 rel:=⟨fun id o ho=>let ⟨B,hB,hO⟩:=hr.obj id o ho;⟨B,hB,hO.mono (fun _ _ h=>h) (hb.block _ hO.lt)⟩,hr.inj,hr.fresh⟩
 next:=zU _
 dA _ _ _:=rfl
 dead _ _ h:=h
 os:=hb.os
 tape:=hb.tape
 output:=hb.output
 size:=hb.size
 frame b jI _:=hb.block b jI
 zc id B o h1 _ _ h3:=by have:=h.lt _ _ h1;omega
 Ax id o o' h1 h2 h3:=by rw[h1]at h2;cases h2;exact h3
theorem sd{P:Program}{f:FuncId}{args:List AV}{h:AH}{M:Nat->Prop}{R:AE->AH->Prop}{v:Value}
  (hc:∀E w dY,Rel E h w->cO E args dY->Calls P f dY.toArray w fun e w'=>e=.returned v/\Below w.heap.size w w') (hR:R (.ret (.sc v)) h):ay P f args h M R:=by
 intro E w dY hr ha
 refine(hc E w dY hr ha).mono ?_
 rintro e w' ⟨rfl,hb⟩
 exact⟨E,h,.ret (.sc v),Step.ML hr hb,.sc _,hR⟩
def MM(g:Nat)(ob:Go.Obj):AO:={ cells:=[],sz:=0,ty:=0,ro:=true,kind:=.Fv g ob }
def rD(ty:TypeId)(fz:Nat×Nat):Go.Obj:=.cells ((Lib.pow10Tab.map fun z=>Value.int .u64 z).toArray) ty fz
def cp(g:Nat)(h:AH):Prop:=∃ty fz,h.obj 0=some (MM g (rD ty fz))
theorem cp.fr{g:Nat}{h h':AH}{S:Nat->Prop}(ht:cp g h)(hf:Fr h h' S)(hs:¬S 0):cp g h':=by
 obtain⟨ty,fz,h0⟩:=ht
 exact⟨ty,fz,hf.obj h0 hs⟩
theorem cp.is {P : Program} {g : Nat} {E : Env} {h : AH} {w : World} (ht : cp g h) (hr : Rel E h w) (hg : P.globalNamed "internal/strconv.uint64pow10" = some g) : Lib.TabIs P w "internal/strconv.uint64pow10" .u64 Lib.pow10Tab := by
 obtain⟨ty,fz,h0⟩:=ht
 obtain⟨B,hB,hO⟩:=hr.obj 0 _ h0
 have K_:B.b=g/\w.heap[g]?=some (rD ty fz):=hO
 unfold Lib.TabIs World.var?
 rw[hg,Option.bind_some,K_.2]
 rfl
theorem Jc(w:World)(k:Nat)(os:Array Go.Obj):Below w.heap.size w (Go.Sort.grow (w.drewN k) os):=by
 refine⟨rfl,rfl,rfl,?_,fun i hi=>?_⟩
 ·show _<=(w.heap++os).size
  simp
 ·show(w.heap++os)[i]?=_
  rw[Array.getElem?_append_left hi]
end Go.Ab
namespace Go.Proofs.YtjehibknlmehmaaGreatDoor
section
open Go.Ab Go.RowKit Go.Shelf
theorem WJ : Tryz.prog.globalNamed "internal/strconv.uint64pow10" = some 0 := by kernel_rfl
theorem Tryz.GM:Builder.Extra Tryz.prog Tryz.tl where
 sizeBuilder:=by kernel_rfl
 liesBuilder:=by kernel_rfl
 t5:=Tryz.underlying5
 a5:=Tryz.isAgg5
 z5:=Tryz.sizeOf5
 v5:=Tryz.zeroValue5
 infoByte:=by kernel_rfl
 cellsByte:=by kernel_rfl
 sizeByte:=by kernel_rfl
 neB5:=by decide
theorem Tryz.kj:Builder.Extra Tryz.prog Tryz.dz where
 sizeBuilder:=by kernel_rfl
 liesBuilder:=by kernel_rfl
 t5:=Tryz.underlying5
 a5:=Tryz.isAgg5
 z5:=Tryz.sizeOf5
 v5:=Tryz.zeroValue5
 infoByte:=by kernel_rfl
 cellsByte:=by kernel_rfl
 sizeByte:=by kernel_rfl
 neB5:=by decide
section
variable {h:AH} {M:Nat->Prop} {R:AE->AH->Prop}
theorem B8{n:Int}(h0:-9223372036854775808<=n)(h1:n<=9223372036854775807)(ht:cp 0 h)(hR:R (.ret (.sc (.string ⟨(Lib.itoa n).toArray⟩))) h):ay Tryz.prog 29 [.sc (.int .i64 n)] h M R:=by
 refine sd (v:=.string ⟨(Lib.itoa n).toArray⟩) (fun E w dY hr ha=>?_) hR
 cases ha with
 |cons a1 a2=>
  cases a2;cases a1
  refine(Any.strconv_Itoa Tryz.Rz n h0 h1 w (ht.is hr WJ)).mono ?_
  rintro e w' ⟨he,k,os,rfl⟩
  exact⟨he,Jc w k os⟩
theorem JX{s:ByteArray}{c:Nat}(hc:c<=100000)(hs:s.size<=100000)(hR:R (.ret (.sc (.string ⟨(Lib.repeatL s.data.toList c).toArray⟩))) h):ay Tryz.prog 83 [.sc (.string s),.sc (.int .i64 c)] h M R:=by
 refine sd (v:=.string ⟨(Lib.repeatL s.data.toList c).toArray⟩) (fun E w dY hr ha=>?_) hR
 cases ha with
 |cons a1 a2=>
  cases a2 with
  |cons a2 a3=>
   cases a3;cases a1;cases a2
   exact Any.strings_Repeat Tryz.RB Tryz.GM s c w (by omega) (by have:=Nat.mul_le_mul hs hc;omega)
def pe(s:ByteArray):List AV:=[.sc (.string s)]
theorem Ln(l:List ByteArray):l.flatMap pe=l.map fun s=>.sc (.string s):=by
 induction l with
 |nil=>rfl
 |cons s l ih=>simp[pe,ih]
theorem RF{x:AV}{xs:List ByteArray}{sep:ByteArray}(hx:bw pe 1 9 h x xs)(hn:xs.length<=100000)(hl:(Lib.join (xs.map (·.data.toList)) sep.data.toList).length<=140737488355328)
  (hR:R (.ret (.sc (.string ⟨(Lib.join (xs.map (·.data.toList)) sep.data.toList).toArray⟩))) h):ay Tryz.prog 82 [x,.sc (.string sep)] h M R:=by
 refine sd (v:=.string ⟨(Lib.join (xs.map (·.data.toList)) sep.data.toList).toArray⟩) (fun E w dY hr ha=>?_) hR
 cases ha with
 |cons a1 a2=>
  cases a2 with
  |cons a2 a3=>
   cases a3;cases a2
   rcases hx with⟨rfl,rfl⟩ |⟨id,rfl,ho⟩
   ·cases a1
    refine(Any.strings_Join_none Tryz.pj Tryz.kj none 0 sep w).mono ?_
    rintro e w' ⟨he,rfl⟩
    exact⟨by rw[he];rfl,Below.refl _ _⟩
   ·cases a1 with
    |sl hB C8 hc hlen hm=>
     rename_i o' cap B
     obtain⟨B',c_,hO⟩:=hr.obj id _ ho
     rw[hB]at c_;cases c_
     obtain⟨arr,fz,hb,mT,hle,vm,dK⟩:=hO.row rfl
     obtain⟨_,PF,gy⟩:=mT rfl
     have dK:=dK.zero gy
     have aM:=hO.lt
     have qJ:B.sz=1:=vm
     have j_:(aO (xs.flatMap pe) 1 9).cells=xs.map fun s=>.sc (.string s):=Ln xs
     rw[j_]at dK
     by_cases h0:xs.length=0
     ·have:xs=[]:=List.length_eq_zero_iff.1 h0
      subst this
      refine(Any.strings_Join_none Tryz.pj Tryz.kj (some ⟨B.b,o',none⟩) cap sep w).mono ?_
      rintro e w' ⟨he,rfl⟩
      exact⟨by rw[he];rfl,Below.refl _ _⟩
     ·have dJ:o'=0:=by omega
      subst dJ
      have:=Any.strings_Join Tryz.pj Tryz.kj B.b 0 cap xs sep w (fun j s hj=>?_) aM (by omega) hlen hl
      ·exact this
      ·obtain⟨v,hv,gK,_⟩:=dK j (.sc (.string s)) (by simp[hj])
       cases gK
       simp[World.cell?,hb,hv]
end
end
section
open Go.Ab Go.RowKit Go.Shelf
theorem Ik{p:Program}{fits:TypeId->Bool}{d:Nat}{e:TypeId}{off n c:Nat}(h:rowAt p fits d e 1 off n=true)(ho:off<p.cellsOf e)(hc:0<c):rowAt p fits d e c off n=true:=by
 cases d with
 |zero=>simp[rowAt]at h
 |succ d=>
  unfold rowAt at h ⊢
  have hs:¬p.cellsOf e=0:=by omega
  simp only[hs,if_false,Nat.div_eq_of_lt ho,Nat.mod_eq_of_lt ho,zG]at h ⊢
  rw[Bool.or_eq_true]at h ⊢
  rcases h with h |h
  ·left
   simp only[yC,decide_eq_true_eq]at h ⊢
   exact⟨⟨h.1.1,by omega⟩,h.2⟩
  ·right
   rw[yC]at h ⊢
   exact⟨by simpa using hc,h.2⟩
theorem x_{p:Program}{e:TypeId}{off c:Nat}(ho:off<p.cellsOf e)(hc:0<c):∀(d:Nat)(u:TypeId)(n:Nat),liesAt p d e 1 off u n=true->liesAt p d e c off u n=true
 |0,_,_,h=>by simp[liesAt]at h
 |d+1,u,n,h=>by
  unfold liesAt at h ⊢
  rw[Bool.or_eq_true]at h ⊢
  rcases h with h |h
  ·exact .inl (Ik h ho hc)
  ·right
   split at h
   ·exact x_ ho hc d _ _ h
   ·cases h
theorem GF{n:Nat}(hn:3<=n):liesAt Pg Tryz.prog.depth 77 (n/Tryz.prog.cellsOf 77) 1 75 1=true:=by
 have h3:Tryz.prog.cellsOf 77=3:=by kernel_rfl
 refine x_ (by rw[h3];omega) ?_ _ _ _ (by kernel_rfl)
 rw[h3]
 exact Nat.div_pos hn (by omega)
set_option maxHeartbeats 1000000 in
theorem Bx(b n:Nat)(w:World)(h0:w.cell? ⟨b,1,none⟩=some (.pointer none))(X5:w.shape? b=some (77,n))(hn:3<=n)(mT:w.frozen? ⟨b,1,none⟩=false) :
  Calls Pg 111 #[.pointer (some ⟨b,1,none⟩)] w fun e w'=>e=.returned (.tuple #[])/\w'=w.setCell ⟨b,1,none⟩ (.pointer (some ⟨b,1,none⟩)):=by
 have L:=Tryz.pj
 have X:=Tryz.kj.toX72
 obtain⟨j,hj,Hj⟩:=Option.map_eq_some_iff.1 X.sizeBuilder
 have mixed:=L.mixed
 have Ww:=GF hn
 have t72:=L.t72;have a72:=L.a72;have z72:=L.z72;have v72:=L.v72;have SQ:=run_underlying L.t72
 have t70:=L.t70;have a70:=L.a70;have z70:=L.z70;have v70:=L.v70;have SR:=run_underlying L.t70
 have t9:=L.t9;have a9:=L.a9;have z9:=L.z9;have v9:=L.v9;have u9:=run_underlying L.t9
 have t4:=L.t4;have a4:=L.a4;have z4:=L.z4;have v4:=L.v4;have u4:=run_underlying L.t4
 have t164:=L.t164;have a164:=L.a164;have z164:=L.z164;have v164:=L.v164;have Zx:=run_underlying L.t164
 go_enter L.f240,Body.n240_ntmps Tryz.dz
 go_wp2
 rw[Lib.run_to_unsafe w ⟨b,1,none⟩ L.t70 L.t164 hj (by rw[Hj];decide) X5 (by show 1<n;omega)]
 simp only[Result.andThen]
 rw[Oper.upon_value]
 go_wp2
 rw[run_callFunc_extern L.f276 (by kernel_rfl) (by kernel_rfl) (by kernel_rfl) (e:=Extern.AbiNoEscape.same) (by kernel_rfl)]
 rw[Lib.run_noEscape]
 simp only[Result.andThen]
 rw[Oper.upon_value]
 go_wp2
 rw[Lib.run_from_unsafe w ⟨b,1,none⟩ L.t164 L.t70 hj X5 Ww]
 simp only[Result.andThen]
 rw[Oper.upon_value]
 go_wp2
 go_end0
 exact⟨rfl,rfl⟩
set_option maxHeartbeats 1000000 in
theorem Cl(b:Nat)(w:World)(h0:w.cell? ⟨b,1,none⟩=some (.pointer (some ⟨b,1,none⟩))) :
  Calls Pg 111 #[.pointer (some ⟨b,1,none⟩)] w fun e w'=>e=.returned (.tuple #[])/\w'=w:=by
 have L:=Tryz.pj
 have X:=Tryz.kj.toX72
 obtain⟨j,hj,_⟩:=Option.map_eq_some_iff.1 X.sizeBuilder
 have mixed:=L.mixed
 have t72:=L.t72;have a72:=L.a72;have z72:=L.z72;have v72:=L.v72;have SQ:=run_underlying L.t72
 have t70:=L.t70;have a70:=L.a70;have z70:=L.z70;have v70:=L.v70;have SR:=run_underlying L.t70
 have t9:=L.t9;have a9:=L.a9;have z9:=L.z9;have v9:=L.v9;have u9:=run_underlying L.t9
 have t4:=L.t4;have a4:=L.a4;have z4:=L.z4;have v4:=L.v4;have u4:=run_underlying L.t4
 have t164:=L.t164;have a164:=L.a164;have z164:=L.z164;have v164:=L.v164;have Zx:=run_underlying L.t164
 go_enter L.f240,Body.n240_ntmps Tryz.dz
 go_wp2
 rw[Lib.run_neq_ptr_same w _ L.t70 hj]
 go_wp2
 go_end0
 exact⟨rfl,rfl⟩
end
end Go.Proofs.YtjehibknlmehmaaGreatDoor
namespace Go.Ab
open Go.RowKit
theorem GI(w:World)(a:Addr)(n:Nat){arr:Array Value}{T:TypeId}{fz:Nat×Nat}(h:w.heap[a.block]?=some (.cells arr T fz)):∃yE,(w.freeze a n).heap[a.block]?=some (.cells arr T yE):=by
 unfold World.freeze
 split
 ·exact⟨fz,h⟩
 ·obtain⟨lo,hi⟩:=fz
  simp only[Array.getElem?_modify,h,zV,yB]
  exact⟨_,rfl⟩
theorem tS(w:World)(a:Addr)(n:Nat){k:Nat}(h:k≠a.block):(w.freeze a n).heap[k]?=w.heap[k]?:=by
 unfold World.freeze
 split
 ·rfl
 ·simp only[Array.getElem?_modify]
  rw[zW (fun e=>h e.symm)]
theorem GJ(w:World)(a:Addr)(n:Nat):(w.freeze a n).heap.size=w.heap.size:=by
 unfold World.freeze
 split
 ·rfl
 ·simp
def AH.YH(h:AH)(id:Nat):AH:=h.eZ id fun o=>{ o with ro:=true }
theorem AH.pn(h:AH)(id i:Nat):(h.YH id).obj i=if i=id then(h.obj i).map (fun o=>{ o with ro:=true }) else h.obj i:=rfl
theorem Step.freeze{E:Env}{h:AH}{M:Nat->Prop}{w:World}(hr:Rel E h w){id:Nat}{B:oO}{o:AO}(ho:h.obj id=some o)(hB:E id=some B)(hk:o.kind=.row)(fH:o.ro=false)(hM:M id)(n:Nat) :
  Step E h M w E (h.YH id) (w.freeze ⟨B.b,0,none⟩ n):=by
 obtain⟨B',c_,hO⟩:=hr.obj id o ho
 obtain⟨arr,fz,hb,mT,hle,gZ,dK⟩:=hO.row hk
 rw[hB]at c_;cases c_
 obtain⟨yE,jI⟩:=GI w ⟨B.b,0,none⟩ n hb
 refine⟨fun _ _ h=>h,⟨?_,?_,hr.fresh⟩,zU _,?_,?_,?_,?_,?_,by rw[GJ];exact zU _,?_,?_,?_⟩
 ·intro i o' dJ
  rw[AH.pn]at dJ
  by_cases e:i=id
  ·subst e
   rw[zX rfl,ho]at dJ
   simp only[yB,zQ]at dJ
   subst dJ
   exact⟨B,hB,OR.AG hk ⟨arr,yE,jI,fun h=>by simp at h,hle,gZ,dK⟩⟩
  ·rw[zW e]at dJ
   obtain⟨B',c_,hO⟩:=hr.obj i o' dJ
   exact⟨B',c_,hO.mono (fun _ _ h=>h) (tS w _ n fun qg=>(hr.inj i id o' o B' B dJ ho c_ hB qg).elim e (fun hh=>by rw[fH]at hh;cases hh.2))⟩
 ·intro i j oi oj Bi Bj h1 h2 h3 h4 h5
  rw[AH.pn]at h1 h2
  have ox:∀i oi,(if i=id then(h.obj i).map (fun o=>({ o with ro:=true }:AO)) else h.obj i)=some oi->∃o',h.obj i=some o'/\(o'.ro=true->oi.ro=true):=by
   intro i oi hi
   split at hi
   ·cases ho:h.obj i with
    |none=>rw[ho]at hi;cases hi
    |some o'=>rw[ho]at hi;simp only[yB,zQ]at hi;subst hi;exact⟨o',rfl,fun _=>rfl⟩
   ·exact⟨oi,hi,fun h=>h⟩
  obtain⟨a,ha,ra⟩:=ox i oi h1
  obtain⟨b,hb,rb⟩:=ox j oj h2
  rcases hr.inj i j a b Bi Bj ha hb h3 h4 h5 with h6 |h6
  ·exact .inl h6
  ·exact .inr ⟨ra h6.1,rb h6.2⟩
 ·intro i _ hm
  rw[AH.pn,zW (fun(e:i=id)=>hm (e ▸ hM))]
 ·intro i _ h0
  rw[AH.pn,h0];simp
 ·unfold World.freeze;split<;>rfl
 ·unfold World.freeze;split<;>rfl
 ·unfold World.freeze;split<;>rfl
 ·intro b _ mj
  exact tS w _ n (fun qg=>mj id B o hM ho fH hB qg.symm)
 ·intro i C oi hi _ _ lL
  rw[AH.pn]at hi
  have:h.obj i≠none:=fun h0=>by rw[h0]at hi;simp at hi
  have:=AH.Ky this
  omega
 ·intro i o1 o2 eN gp vx
  rw[AH.pn]at gp
  split at gp
  ·rw[eN]at gp;simp only[yB,zQ]at gp;subst gp;rfl
  ·rw[eN]at gp;cases gp;exact vx
end Go.Ab
namespace Go.Proofs.YtjehibknlmehmaaGreatDoor
section
open Go.Ab Go.RowKit Go.Shelf
def SW(n0:Nat)(h:AH)(id:Nat):Prop:=n0<=id/\∃o,h.obj id=some o/\o.ro=false/\(o.ty=77\/o.ty=5)
theorem SW.trans{n0:Nat}{h h1 h2:AH}(a:Fr h h1 (SW n0 h))(b:Fr h1 h2 (SW n0 h1)):Fr h h2 (SW n0 h):=by
 refine⟨zR a.next b.next,fun id eN gp=>?_⟩
 have e1:=a.dA id eN gp
 rw[b.dA id (Nat.lt_of_lt_of_le eN a.next) ?_,e1]
 rintro⟨h3,o,h4,h5⟩
 exact gp ⟨h3,o,by rw[<-e1];exact h4,h5⟩
theorem SW.bJ{n0:Nat}{h h1:AH}(a:Fr h h1 fun _=>False):Fr h h1 (SW n0 h):=a.mono fun _ h=>h.elim
structure Wr (n0:Nat) (h:AH) (w:Nat) (rv:AV) (l:List UInt8):Prop where
 own:n0<=w
 ex:∃p bv,h.obj w=some (aO [rv,p,bv] 3 77)/\(p=.sc (.pointer none)\/p=.ptr w 1)/\((bv=aV/\l=[])\/∃id,l≠[]/\n0<=id/\bv=.sl id 0 l.length/\h.obj id=some (aO (jm l) 1 5))
theorem Wr.fr{n0:Nat}{h h':AH}{w:Nat}{rv:AV}{l:List UInt8}(a:Wr n0 h w rv l){S:Nat->Prop}(hf:Fr h h' S)(hs:∀id o,h.obj id=some o->o.ty=77\/o.ty=5->¬S id):Wr n0 h' w rv l:=by
 obtain⟨h1,p,bv,h2,h3,h4⟩:=a
 refine⟨h1,p,bv,hf.obj h2 (hs _ _ h2 (.inl rfl)),h3,?_⟩
 rcases h4 with h4 |⟨id,h5,h6,h7,h8⟩
 ·exact .inl h4
 ·exact .inr ⟨id,h5,h6,h7,hf.obj h8 (hs _ _ h8 (.inr rfl))⟩
theorem Wr.bp{n0:Nat}{h h':AH}{w:Nat}{rv:AV}{l:List UInt8}(a:Wr n0 h w rv l)(hf:Fr h h' fun _=>False):Wr n0 h' w rv l:=a.fr hf fun _ _ _ _ h=>h
section
variable {h:AH} {M:Nat->Prop} {R:AE->AH->Prop} {n0 w:Nat} {rv:AV} {l:List UInt8}
theorem Kz(hw:Wr n0 h w rv l)(hR:R (.ret (.sc (.int .i64 l.length))) h):ay Pg 31 [.ptr w 1] h M R:=by
 obtain⟨_,p,bv,h2,_,h4⟩:=hw
 apply Ze.calls
 rcases h4 with⟨rfl,rfl⟩ |⟨id,_,_,rfl,_⟩
 ·simpa[h2] using hR
 ·simpa[h2] using hR
theorem FL{p bv:AV}(ho:h.obj w=some (aO [rv,p,bv] 3 77))(hp:p=.sc (.pointer none)\/p=.ptr w 1)(hM:M w)(hR:∀h',Fr h h' (·=w)->h'.obj w=some (aO [rv,.ptr w 1,bv] 3 77)->R (.ret (.cM [])) h'):ay Pg 111 [.ptr w 1] h M R:=by
 intro E wd dY hr ha
 cases ha with
 |cons a1 a2=>
  cases a2
  cases a1 with
  |ptr hB=>
   rename_i B
   obtain⟨B',c_,hO⟩:=hr.obj w _ ho
   rw[hB]at c_;cases c_
   obtain⟨arr,fz,hb,mT,hle,vm,dK⟩:=hO.row rfl
   obtain⟨hz,PF,gy⟩:=mT rfl
   have dK:=dK.zero gy
   have h3:3<=arr.size:=dK.get
   rw[gy]
   subst hz
   obtain⟨v,hv,gK,_⟩:=dK 1 p rfl
   rcases hp with rfl |rfl
   ·cases gK
    refine(Bx B.b arr.size wd (by simp[World.cell?,hb,hv]) (by simp[World.shape?,hb]) h3 (by simp[World.frozen?,hb])).mono ?_
    rintro e w' ⟨rfl,rfl⟩
    have eM:=(Step.S0 (M:=M) (c:=.ptr w 1) (v:=.pointer (some ⟨B.b,1,none⟩)) (off:=1) hr ho hB rfl rfl hM (by simp[aO]) (by have:=VR.ptr (off:=1) hB;rwa [gy]at this) rfl).1
    refine⟨E,_,.ret (.cM []),eM,.cM .nil,hR _ ⟨zU _,fun id _ cC=>AH.ja cC⟩ ?_⟩
    rw[ly ho];rfl
   ·cases gK with
    |ptr Dg=>
     rw[hB]at Dg;cases Dg
     rw[gy]at hv
     refine(Cl B.b wd (by simp[World.cell?,hb,hv])).mono ?_
     rintro e w' ⟨rfl,rfl⟩
     exact⟨E,h,.ret (.cM []),Step.refl hr,.cM .nil,hR _ Fr.refl ho⟩
theorem Mn(a b:List UInt8):jm (a++b)=jm a++jm b:=by simp[jm]
theorem yT(a:List UInt8):(jm a).length=a.length:=by simp[jm]
theorem QI{s:ByteArray}(hw:Wr n0 h w rv l)(hl:l.length+s.size<=140737488355328)(hn:n0<=h.next)(hM:∀id,SW n0 h id->M id)(hR:∀h',Fr h h' (SW n0 h)->Wr n0 h' w rv (l++s.data.toList)->R (.ret (.cM [.sc (.int .i64 s.size),.sc .nilIface])) h'):ay Pg 84 [.ptr w 1,.sc (.string s)] h M R:=by
 obtain⟨h1,p,bv,h2,h3,h4⟩:=hw
 have P8:M w:=hM w ⟨h1,_,h2,rfl,.inl rfl⟩
 have Uc:s.data.toList.length=s.size:=by rw[Array.length_toList];rfl
 have hwn:=h.lt _ _ h2
 apply HQ.calls
 simp only[HQ.k4,HQ.k3]
 refine⟨(·=w),fun id e _=>.inl (e ▸ P8),FL h2 h3 rfl ?_⟩
 intro h5 f5 o5
 have n5:=f5.next
 have ne5:∀id,h.obj id=some (aO (jm l) 1 5)->id≠w:=fun id ho e=>by subst e;rw[h2]at ho;simp[aO]at ho
 rcases h4 with⟨rfl,rfl⟩ |⟨id,h6,h7,rfl,h8⟩
 ·simp[o5,re,aD,-HQ.k1]
  by_cases hz:s=ByteArray.empty
  ·have hsn:s.data.toList=[]:=by subst hz;rfl
   rw[zX hz]
   simp[P8]
   refine hR _ ?_ ⟨h1,.ptr w 1,aV,?_,.inr rfl,.inl ⟨rfl,by rw[hsn];rfl⟩⟩
   ·exact(f5.put (cs:=[aV]) (off:=2) (.inl rfl)).mono fun id e=>e ▸ ⟨h1,_,h2,rfl,.inl rfl⟩
   ·rw[ly o5];rfl
  ·rw[zW hz]
   have EQ:s.size≠0:=fun e=>hz (by simpa using e)
   refine⟨by simpa using hl,?_⟩
   have M9:w≠h5.next:=by omega
   simp[AH.b9,M9,o5,cH,P8]
   refine hR _ ?_ ⟨h1,.ptr w 1,.sl h5.next 0 s.size,?_,.inr rfl,.inr ⟨h5.next,?_,by omega,by simp[Uc],?_⟩⟩
   ·exact((f5.alloc _).put (.inl rfl)).mono fun id e=>e ▸ ⟨h1,_,h2,rfl,.inl rfl⟩
   ·rw[ly (by rw[AH.alloc_old (by omega)];exact o5)];rfl
   ·intro e;have:=congrArg List.length e;rw[List.nil_append,Uc]at this;exact EQ this
   ·rw[AH.ja (by omega),AH.cK];simp[aO]
 ·have IX:=h.lt _ _ h8
  have IW:=ne5 id h8
  have o8:=f5.obj h8 IW
  have Nl:M id:=hM id ⟨h7,_,h8,rfl,.inr rfl⟩
  have M9:w≠h5.next:=by omega
  simp[o5,re,aD,-HQ.k1]
  refine⟨_,⟨.inl Nl,o8,rfl,rfl,rfl,rfl,by simp[aO,yT],hl⟩,?_⟩
  simp[AH.b9,AH.fU,M9,AH.HE,IW,Ne.symm IW,o5,cH,P8,aO]
  have Ng:h5.next≠w:=by omega
  refine hR _ ?_ ⟨h1,.ptr w 1,.sl h5.next 0 (l.length+s.size),?_,.inr rfl,.inr ⟨h5.next,?_,by omega,by simp[Uc],?_⟩⟩
  ·refine⟨by simp[AH.rC,AH.bU,AH.fU];omega,fun i hi hs=>?_⟩
   have Yn:i≠w:=fun e=>hs (e ▸ ⟨h1,_,h2,rfl,.inl rfl⟩)
   have hii:i≠id:=fun e=>hs (e ▸ ⟨h7,_,h8,rfl,.inr rfl⟩)
   rw[AH.ja Yn,AH.alloc_old (by rw[AH.fU];omega),AH.rr hii,f5.dA i hi Yn]
  ·rw[ly (cells:=[rv,.ptr w 1,.sl id 0 l.length]) (sz:=3) (ty:=77) (by rw[AH.alloc_old (by rw[AH.fU];omega),AH.rr (Ne.symm IW),o5])];rfl
  ·simp[h6]
  ·rw[AH.ja Ng]
   rw[show h5.next=(h5.del id).next from rfl,AH.cK,List.take_of_length_le (by rw[yT];omega),<-Mn]
end
set_option maxHeartbeats 2000000 in
theorem FQ(b g cap:Nat)(cur:Array Value)(l:List UInt8)(w:World)(h2:w.cell? ⟨b,2,none⟩=some (.slice (some ⟨g,0,none⟩) l.length cap))(hg:w.heap[g]?=some (.cells cur 5 (0,0)))
  (wI:∀j x,l[j]?=some x->w.cell? ⟨g,j,none⟩=some (.int .u8 x.toNat)) (h0:l≠[]) (hle:l.length<=cur.size) (abN:l.length<=cap) (UF:cap<=maxLen) :
  Calls Pg 32 #[.pointer (some ⟨b,1,none⟩)] w fun e w'=>e=.returned (.string ⟨l.toArray⟩)/\w'=w.drew.freeze ⟨g,0,none⟩ l.length:=by
 have L:=Tryz.pj
 have X:=Tryz.kj
 have hl0:l.length≠0:=by simpa using h0
 have c1:w.drew.cell? ⟨b,2,none⟩=some (.slice (some ⟨g,0,none⟩) l.length cap):=h2
 have hSD:(Builtin.unsafeSliceData_ #[(Tryz.dz.t 37)] (Tryz.dz.t 127) #[.slice (some ⟨g,0,none⟩) l.length cap]).run Pg w.drew=.ok (.pointer (some ⟨g,0,none⟩)) w.drew:=
  Lib.run_unsafeSliceData_row _ _ _ _ _ _ (by omega)
 have hUS:(Builtin.unsafeString_ #[(Tryz.dz.t 127),(Tryz.dz.t 3)] (Tryz.dz.t 9) #[.pointer (some ⟨g,0,none⟩),.int .i64 l.length]).run Pg w.drew=.ok (.string ⟨l.toArray⟩) (w.drew.freeze ⟨g,0,none⟩ l.length):=by
  refine Lib.run_unsafeString_row w.drew (Tryz.dz.t 127) (Tryz.dz.t 3) (Tryz.dz.t 9) 5 L.t127 X.cellsByte g cur.size (by have Yp:w.drew.heap[g]?=some (.cells cur 5 (0,0)):=hg;simp[World.shape?,Yp]) l h0 (by omega) (by unfold maxLen at UF;omega) ?_
  intro j x hx
  have:=wI j x hx
  have e:(⟨g,0,none⟩:Addr).add j=⟨g,j,none⟩:=by unfold Addr.add;by_cases hj:j=0<;>simp[hj]
  rw[e]
  exact this
 clear wI
 have mixed:=L.mixed
 have t72:=L.t72;have a72:=L.a72;have z72:=L.z72;have v72:=L.v72;have SQ:=run_underlying L.t72
 have t70:=L.t70;have a70:=L.a70;have z70:=L.z70;have v70:=L.v70;have SR:=run_underlying L.t70
 have t37:=L.t37;have a37:=L.a37;have z37:=L.z37;have v37:=L.v37;have u37:=run_underlying L.t37
 have t127:=L.t127;have a127:=L.a127;have z127:=L.z127;have v127:=L.v127;have Zy:=run_underlying L.t127
 have t3:=L.t3;have a3:=L.a3;have z3:=L.z3;have v3:=L.v3;have u3:=run_underlying L.t3
 have t9:=L.t9;have a9:=L.a9;have z9:=L.z9;have v9:=L.v9;have u9:=run_underlying L.t9
 have t5:=X.t5;have a5:=X.a5;have z5:=X.z5;have v5:=X.v5;have u5:=run_underlying X.t5
 go_enter L.f169,Body.n169_ntmps Tryz.dz
 go_wp2
 go_region_o
 all_goals (go_wp2;go_ret;exact⟨rfl,rfl⟩)
set_option maxHeartbeats 2000000 in
theorem GN(b:Nat)(w:World)(h2:w.cell? ⟨b,2,none⟩=some (.slice none 0 0)) :
  Calls Pg 32 #[.pointer (some ⟨b,1,none⟩)] w fun e w'=>e=.returned (.string ⟨#[]⟩)/\w'=w.drew:=by
 have L:=Tryz.pj
 have X:=Tryz.kj
 have hUS:∀(W:World)(q:Option Addr),(Builtin.unsafeString_ #[(Tryz.dz.t 127),(Tryz.dz.t 3)] (Tryz.dz.t 9) #[.pointer q,.int .i64 0]).run Pg W=.ok (.string .empty) W:=fun W q=>Lib.run_unsafeString_none W _ _ _ q
 have c1:w.drew.cell? ⟨b,2,none⟩=some (.slice none 0 0):=h2
 have hSD:(Builtin.unsafeSliceData_ #[(Tryz.dz.t 37)] (Tryz.dz.t 127) #[.slice none 0 0]).run Pg w.drew=.ok (.pointer none) w.drew:=rfl
 have mixed:=L.mixed
 have t72:=L.t72;have a72:=L.a72;have z72:=L.z72;have v72:=L.v72;have SQ:=run_underlying L.t72
 have t70:=L.t70;have a70:=L.a70;have z70:=L.z70;have v70:=L.v70;have SR:=run_underlying L.t70
 have t37:=L.t37;have a37:=L.a37;have z37:=L.z37;have v37:=L.v37;have u37:=run_underlying L.t37
 have t127:=L.t127;have a127:=L.a127;have z127:=L.z127;have v127:=L.v127;have Zy:=run_underlying L.t127
 have t3:=L.t3;have a3:=L.a3;have z3:=L.z3;have v3:=L.v3;have u3:=run_underlying L.t3
 have t9:=L.t9;have a9:=L.a9;have z9:=L.z9;have v9:=L.v9;have u9:=run_underlying L.t9
 have t5:=X.t5;have a5:=X.a5;have z5:=X.z5;have v5:=X.v5;have u5:=run_underlying X.t5
 go_enter L.f169,Body.n169_ntmps Tryz.dz
 go_wp2
 go_region_o
 all_goals (go_wp2;go_ret;exact⟨rfl,rfl⟩)
section
variable {h:AH} {M:Nat->Prop} {R:AE->AH->Prop} {n0 w:Nat} {rv:AV} {l:List UInt8}
theorem RW(hw:Wr n0 h w rv l)(hM:∀id,SW n0 h id->M id)(hR:∀h',Fr h h' (SW n0 h)->R (.ret (.sc (.string ⟨l.toArray⟩))) h'):ay Pg 32 [.ptr w 1] h M R:=by
 obtain⟨_,p,bv,ho,_,h4⟩:=hw
 intro E wd dY hr ha
 cases ha with
 |cons a1 a2=>
  cases a2
  cases a1 with
  |ptr hB=>
   rename_i B
   obtain⟨B',c_,hO⟩:=hr.obj w _ ho
   rw[hB]at c_;cases c_
   obtain⟨arr,fz,hb,mT,hle,vm,dK⟩:=hO.row rfl
   obtain⟨hz,PF,gy⟩:=mT rfl
   have dK:=dK.zero gy
   rw[gy]
   obtain⟨v,hv,gK,kY⟩:=dK 2 bv rfl
   clear kY
   have vl:wd.cell? ⟨B.b,2,none⟩=some v:=by simp[World.cell?,hb,hv]
   rcases h4 with⟨rfl,rfl⟩ |⟨id,h5,h6,rfl,h8⟩
   ·cases gK
    refine(GN B.b wd vl).mono ?_
    rintro e w' ⟨rfl,rfl⟩
    exact⟨E,h,.ret (.sc (.string ⟨#[]⟩)),Step.drew hr rfl rfl rfl rfl,.sc _,hR h Fr.refl⟩
   ·cases gK with
    |sl hC C8 hc hlen hm=>
     rename_i o' cap C
     obtain⟨C',YC,K_⟩:=hr.obj id _ h8
     rw[hC]at YC;cases YC
     obtain⟨Vw,fz2,vp,aaL,abJ,abO,Cd⟩:=K_.row rfl
     obtain⟨XT,Yf,hC0⟩:=aaL rfl
     have Cd:=Cd.zero hC0
     subst XT
     have hl0:l.length≠0:=by simpa using h5
     have dJ:o'=0:=by omega
     subst dJ
     have abI:=Cd.get
     have aaG:l.length<=Vw.size:=by have:(aO (jm l) 1 5).cells.length=l.length:=yT l;omega
     refine(FQ B.b C.b cap Vw l wd vl vp (fun j x hx=>?_) h5 aaG hlen hm).mono ?_
     ·obtain⟨q,hq,hqr,_⟩:=Cd j (.sc (.int .u8 x.toNat)) (by simp[aO,jm,hx])
      cases hqr
      simp[World.cell?,vp,hq]
     rintro e w' ⟨rfl,rfl⟩
     have Nl:M id:=hM id ⟨h6,_,h8,rfl,.inr rfl⟩
     have X6:Step E h M wd E h wd.drew:=Step.drew hr rfl rfl rfl rfl
     have eM:=Step.freeze (M:=M) X6.rel h8 hC rfl rfl Nl l.length
     refine⟨E,_,.ret (.sc (.string ⟨l.toArray⟩)),X6.trans hr eM (fun _ _ hm=>.inl hm),.sc _,hR _ ⟨zU _,fun i hi hs=>?_⟩⟩
     rw[AH.pn,zW (fun(e:i=id)=>hs (e ▸ ⟨h6,_,h8,rfl,.inr rfl⟩))]
end
end
section
open Go.Ab
def iB(s:ByteArray):Bool:=decide (0<s.size)&&eY (dL s 0)&&(fE eU s 0==s.size)
def gG(s:ByteArray):Bool:=iB s&&!BV s
theorem size_pos{s:ByteArray}(h:¬s=ByteArray.empty):0<s.size:=by
 rcases Nat.eq_zero_or_pos s.size with h1 |h1
 ·exact absurd (by simpa using h1) h
 ·exact h1
theorem qk:(⟨#[]⟩:ByteArray)=ByteArray.empty:=rfl
theorem JR(s:ByteArray)(p:Int->Bool):∀(n i:Nat),s.size-i=n->i<=s.size->(fE p s i=s.size↔∀j,i<=j->j<s.size->p (dL s j)=true):=by
 intro n
 induction n with
 |zero=>intro i h1 h2;rw[fE,dif_neg (by omega)];exact⟨fun _ j h3 h4=>by omega,fun _=>by omega⟩
 |succ n ih=>
  intro i h1 h2
  have hb:dL s i=s[i].toNat:=by simp[dL,show i<s.size by omega]
  rw[fE,dif_pos (by omega),<-hb]
  split
  ·rename_i hp
   rw[ih (i+1) (by omega) (by omega)]
   refine⟨fun h j h3 h4=>?_,fun h j h3 h4=>h j (by omega) h4⟩
   rcases Nat.lt_or_ge i j with h5 |h5
   ·exact h j (by omega) h4
   ·have:j=i:=by omega
    subst this;exact hp
  ·rename_i hp
   exact⟨fun h=>by omega,fun h=>absurd (h i (zU _) (by omega)) hp⟩
section
variable {h:AH} {M:Nat->Prop} {R:AE->AH->Prop} {s:ByteArray}
theorem KG(hs:s.size<9223372036854775807)(hR:R (.ret (.sc (.bool (iB s)))) h):ay Pg 107 [.sc (.string s)] h M R:=by
 apply Ju.calls
 by_cases h0:s=ByteArray.empty
 ·subst h0
  simp[qk]
  simpa[iB] using hR
 ·have hp:=size_pos h0
  have hb:dL s 0=s[0].toNat:=by simp[dL,hp]
  simp[qk,h0,hp,-Ju.k4]
  refine⟨fun _=>False,fun _ h=>h.elim,sG ?_⟩
  have hg:=hR
  unfold iB at hR
  rw[hb]at hR
  cases hl:eY (s[0].toNat:Nat)
  ·simp[hl]at hR
   simp[hl]
   exact hR
  ·simp[hl,-Ju.k2]
   refine⟨fun _=>False,fun _ h=>h.elim,Av CX rfl hs ?_⟩
   simp
   simp[hl,hp]at hR
   have e:(((fE eU s 0:Nat):Int)==(s.size:Int))=(fE eU s 0==s.size):=by
    rw[Bool.eq_iff_iff];simp;omega
   show R (.ret (.sc (.bool (((fE eU s 0:Nat):Int)==(s.size:Int))))) h
   rw[e];exact hR
theorem vS(hs:s.size<9223372036854775807)(hR:R (.ret (.sc (.bool (gG s)))) h):ay Pg 80 [.sc (.string s)] h M R:=by
 apply Qx.calls
 simp[-Qx.k3]
 refine⟨fun _=>False,fun _ h=>h.elim,KG hs ?_⟩
 unfold gG at hR
 cases hn:iB s
 ·simp[hn]at hR ⊢;exact hR
 ·simp[hn]at hR
  simp[-Qx.k2]
  refine⟨fun _=>False,fun _ h=>h.elim,Kk ?_⟩
  simpa using hR
theorem I9{n:Int}(hR:R (.ret (.sc (.bool (decide (0<=n)&&decide (n<=9007199254740991))))) h):ay Pg 81 [.sc (.int .i64 n)] h M R:=by
 apply Y2.calls
 by_cases h1:0<=n<;>by_cases h2:n<=9007199254740991<;>simp[h1,h2]at hR ⊢<;>exact hR
theorem Ri(hR:R (.ret (.sc (.bool (BV s)))) h):ay Pg 96 [.sc (.string s)] h M R:=by
 apply YY.calls
 unfold BV at hR
 by_cases h1:s=aX
 ·subst h1;simp at hR;simp[aX];exact hR
 by_cases h2:s=bK
 ·subst h2;simp at hR;simp[bK];exact hR
 by_cases h3:s=aY
 ·subst h3;simp at hR;simp[aY];exact hR
 by_cases h4:s=aK
 ·subst h4;simp at hR;simp[aK];exact hR
 by_cases h5:s=c9
 ·subst h5;simp at hR;simp[c9];exact hR
 by_cases h6:s=be
 ·subst h6;simp at hR;simp[be];exact hR
 by_cases h7:s=ch
 ·subst h7;simp at hR;simp[ch];exact hR
 simp[h1,h2,h3,h4,h5,h6,h7]at hR
 unfold aX at h1;unfold bK at h2;unfold aY at h3;unfold aK at h4;unfold c9 at h5;unfold be at h6;unfold ch at h7
 simp[h1,h2,h3,h4,h5,h6,h7]
 exact hR
theorem Eh(hs:s.size<9223372036854775807)(hR:R (.ret (.sc (.bool (iB s)))) h):ay Pg 95 [.sc (.string s)] h M R:=by
 apply BF.calls
 by_cases h0:s=ByteArray.empty
 ·subst h0
  simp[qk,-BF.ep]
  simpa[iB] using hR
 ·have hp:=size_pos h0
  have hb:dL s 0=s[0].toNat:=by simp[dL,hp]
  simp[qk,h0,hp,-BF.jc]
  refine⟨fun _=>False,fun _ h=>h.elim,Dt ?_⟩
  cases hd:isDigit (s[0].toNat:Nat)
  ·simp[hd,-BF.dI]
   have kH:iB s=true↔∀j,j<s.size->eU (dL s j)=true:=by
    unfold iB
    simp only[yC,decide_eq_true_eq,beq_iff_eq]
    rw[JR s eU _ 0 rfl (Nat.zero_le _)]
    refine⟨fun h j hj=>h.2 j (Nat.zero_le _) hj,fun h=>⟨⟨hp,?_⟩,fun j _ hj=>h j hj⟩⟩
    have:=h 0 hp
    unfold eU at this
    rw[hb]at this ⊢
    simpa[hd] using this
   unfold BF.dI
   refine nK (ι:=Nat) (fun i s' h'=>h'=h/\s'.ds=[]/\s'.tm 0=.sc (.string s)/\s'.tm 3=.sc (.int .i64 i)/\i<=s.size/\∀j,j<i->eU (dL s j)=true) (fun i=>s.size-i) 0 ?_ ?_
   ·simp
   rintro i ⟨tm,ds⟩ h' ⟨rfl,rfl,e0,e3,hi,P3⟩
   simp only at e0 e3
   rw[BF.l1]
   by_cases aM:i<s.size
   ·have UK:dL s i=s[i].toNat:=by simp[dL,aM]
    have hw:IntKind.i64.wrap ((i:Int)+1)=((i+1:Nat):Int):=by rw[aL (by omega) (by omega)];simp
    simp[-BF.k6,e0,e3,aM]
    refine⟨fun _=>False,fun _ h=>h.elim,Iw ?_⟩
    have step:eU (dL s i)=true->∀j,j<i+1->eU (dL s j)=true:=by
     intro hx j hj
     rcases Nat.lt_or_ge j i with h5 |h5
     ·exact P3 j h5
     ·have:j=i:=by omega
      subst this;exact hx
    cases hl:eY (s[i].toNat:Nat)
    ·simp[-BF.k5,e0,e3,aM]
     refine⟨fun _=>False,fun _ h=>h.elim,Dt ?_⟩
     cases Yu:isDigit (s[i].toNat:Nat)
     ·simp
      have:iB s=false:=by
       cases hh:iB s
       ·rfl
       ·have:=kH.1 hh i aM
        unfold eU at this
        rw[UK,hl,Yu]at this
        cases this
      rw[this]at hR
      exact hR
     ·simp[e0,e3,hw]
      exact⟨i+1,by omega,by omega,by omega,step (by unfold eU;rw[UK,Yu];simp)⟩
    ·simp[e0,e3,hw]
     exact⟨i+1,by omega,by omega,by omega,step (by unfold eU;rw[UK,hl];simp)⟩
   ·have:i=s.size:=by omega
    subst this
    simp[e0,e3]
    rw[kH.2 P3]at hR
    exact hR
  ·have:iB s=false:=by
    unfold iB
    rw[hb]
    have hx:eY (s[0].toNat:Nat)=false:=by
     unfold isDigit at hd;unfold eY
     simp at hd ⊢
     omega
    simp[hx]
   simp[hd]
   rw[this]at hR
   exact hR
theorem EC(hs:s.size<9223372036854775807)(hR:R (.ret (.sc (.bool (gG s)))) h):ay Pg 73 [.sc (.string s)] h M R:=by
 apply Qz.calls
 simp[-Qz.k3]
 refine⟨fun _=>False,fun _ h=>h.elim,Eh hs ?_⟩
 unfold gG at hR
 cases hn:iB s
 ·simp[hn]at hR ⊢;exact hR
 ·simp[hn]at hR
  simp[-Qz.k2]
  refine⟨fun _=>False,fun _ h=>h.elim,Ri ?_⟩
  simpa using hR
end
end
section
open Go.Ab
structure Shape where
 name:Bool
 num:Bool
 args:Int
 body:Bool
def Shape.enc(s:Shape):List AV:=[.sc (.bool s.name),.sc (.bool s.num),.sc (.int .i64 s.args),.sc (.bool s.body)]
def eo(k:ByteArray):Shape×Bool:=
 if k=aX\/k=bK then(⟨true,true,0,false⟩,true)
 else if k=aY then(⟨true,false,-1,true⟩,true)
 else if k=aK then(⟨false,true,0,true⟩,true)
 else if k=c9 then(⟨true,true,0,true⟩,true)
 else if k=be then(⟨false,false,2,false⟩,true)
 else if k=ch then(⟨false,false,1,false⟩,true)
 else if k=bP then(⟨true,false,-1,false⟩,true)
 else(⟨false,false,0,false⟩,false)
theorem uU:kx Pg 107=some true:=by kernel_rfl
theorem uh:eW Pg 107=some 4:=by kernel_rfl
section
variable {h:AH} {M:Nat->Prop} {R:AE->AH->Prop}
theorem JP{s:Shape}{b:Bool}(hR:∀h',Fr h h' (fun _=>False)->R (.ret (.cM [.agg s.enc,.sc (.bool b)])) h') :
  R (.ret (.cM [.agg s.enc,.sc (.bool b)])) ((h.alloc (aO ([.bool false,.bool false,.int .i64 0,.bool false].map AV.sc) 4 107)).put h.next 0 s.enc):=
 hR _ ((Fr.refl.alloc _).put (.inr (zU _)))
theorem Ar{k:ByteArray}(hR:∀h',Fr h h' (fun _=>False)->R (.ret (.cM [.agg (eo k).1.enc,.sc (.bool (eo k).2)])) h'):ay Pg 48 [.sc (.string k)] h M R:=by
 apply Zb.calls
 unfold eo at hR
 have fin:=fun(s:Shape) (b:Bool) hh=>JP (h:=h) (R:=R) (s:=s) (b:=b) hh
 by_cases h1:k=aX
 ·subst h1
  simp at hR
  simp[aX,AH.b9,uU,uh,AH.cb]
  exact fin ⟨true,true,0,false⟩ true hR
 by_cases h2:k=bK
 ·subst h2
  simp at hR
  simp[bK,AH.b9,uU,uh,AH.cb]
  exact fin ⟨true,true,0,false⟩ true hR
 by_cases h3:k=aY
 ·subst h3
  simp[aX,bK,aY]at hR
  simp[aY,AH.b9,uU,uh,AH.cb]
  exact fin ⟨true,false,-1,true⟩ true hR
 by_cases h4:k=aK
 ·subst h4
  simp[aX,bK,aY,aK]at hR
  simp[aK,AH.b9,uU,uh,AH.cb]
  exact fin ⟨false,true,0,true⟩ true hR
 by_cases h5:k=c9
 ·subst h5
  simp[aX,bK,aY,aK,c9]at hR
  simp[c9,AH.b9,uU,uh,AH.cb]
  exact fin ⟨true,true,0,true⟩ true hR
 by_cases h6:k=be
 ·subst h6
  simp[aX,bK,aY,aK,c9,be]at hR
  simp[be,AH.b9,uU,uh,AH.cb]
  exact fin ⟨false,false,2,false⟩ true hR
 by_cases h7:k=ch
 ·subst h7
  simp[aX,bK,aY,aK,c9,be,ch]at hR
  simp[ch,AH.b9,uU,uh,AH.cb]
  exact fin ⟨false,false,1,false⟩ true hR
 by_cases h8:k=bP
 ·subst h8
  simp[aX,bK,aY,aK,c9,be,ch,bP]at hR
  simp[bP,AH.b9,uU,uh,AH.cb]
  exact fin ⟨true,false,-1,false⟩ true hR
 simp[h1,h2,h3,h4,h5,h6,h7,h8]at hR
 unfold aX at h1;unfold bK at h2;unfold aY at h3;unfold aK at h4;unfold c9 at h5;unfold be at h6;unfold ch at h7;unfold bP at h8
 simp[h1,h2,h3,h4,h5,h6,h7,h8,AH.b9,uU,uh,AH.cb]
 exact fin ⟨false,false,0,false⟩ false hR
end
end
end Go.Proofs.YtjehibknlmehmaaGreatDoor
namespace Go.Ab
variable {P:Program} {α:Type} {f:α->List AV} {sz:Nat} {ty:TypeId} {h:AH} {x:AV} {l:List α} {i:Nat} {y:α} {W:Nat->Prop}
end Go.Ab
namespace Go.Proofs.YtjehibknlmehmaaGreatDoor
section
open Go.Ab
attribute [-simp] aN aD
def jo(gate:Bool)(a:Arg):Bool:=gG a.name&&decide (-1<=a.index)&&decide (a.index<=9007199254740991)&&(!gate||decide (a.index=-1))
def py(n:Int):Bool:=decide (0<=n)&&decide (n<=9007199254740991)
def lq(sh:Shape)(ok:Bool)(r:Row):Bool:=
 ok&&(sh.name==gG r.name)&&(sh.name||decide (r.name=ByteArray.empty))&&(!sh.num||py r.num)&&(sh.num||decide (r.num=0))&&(decide (sh.args<0)||decide ((r.args.length:Int)=sh.args))&&(sh.body||decide (r.rows=0))
def j9(r:Row):Bool:=lq (eo r.kind).1 (eo r.kind).2 r&&r.args.all (jo (decide (r.kind=aY)))
theorem XQ:rq Pg 4=true:=by kernel_rfl
theorem CI{t:TypeId}{c a b:Bool}{K:AV->Prop}(ht:rq Pg t=true):aa Pg .neq t c (.sc (.bool a)) (.sc (.bool b)) K=K (.sc (.bool (!(a==b)))):=by simp[aa,ht]
theorem iE(x y:Int):(x != y)=!decide (x=y):=by by_cases h:x=y<;>simp[h]
section
variable {h:AH} {M W:Nat->Prop} {R:AE->AH->Prop} {QR QN:VK} {QE:Nat->VK} {QP:AV->AH->Prop} {vr vs:Nat} {r:Row} {a:AV} {sh:Shape} {ok:Bool}
theorem Xf{b:Bool}(hv:h.obj vr=some (aO (au (r,a)) 6 46))(hs:h.obj vs=some (aO sh.enc 4 107))
  (hK:fY.fc W QR QN QE QP (.ptr vr 0) (.ptr vs 0) (.sc (.bool (b||(!sh.name&&!decide (r.name=ByteArray.empty))))) h):fY.fq W QR QN QE QP (.ptr vr 0) (.ptr vs 0) (.sc (.bool b)) h:=by
 revert hK
 cases b<;>cases hx:sh.name<;>by_cases he:r.name=ByteArray.empty<;>intro hK<;>simp[-fY.fc,hv,hs,au,Shape.enc,qk,hx,he,iE]at hK ⊢<;>exact hK
theorem Xe{b:Bool}(hv:h.obj vr=some (aO (au (r,a)) 6 46))(hs:h.obj vs=some (aO sh.enc 4 107))
  (hK:fY.cX W QR QN QE QP (.ptr vr 0) (.ptr vs 0) (.sc (.bool (b||(sh.num&&!py r.num)))) h):fY.fc W QR QN QE QP (.ptr vr 0) (.ptr vs 0) (.sc (.bool b)) h:=by
 revert hK
 cases b<;>cases hx:sh.num<;>intro hK<;>simp[-fY.cX,hv,hs,au,Shape.enc,qk,hx]at hK ⊢
 ·exact hK
 ·refine⟨fun _=>False,fun _ h=>h.elim,I9 ?_⟩
  show e_ _ (.sc (.bool (py r.num))) _
  simp[-fY.cX]
  exact hK
 ·exact hK
 ·exact hK
theorem Xd{b:Bool}(hv:h.obj vr=some (aO (au (r,a)) 6 46))(hs:h.obj vs=some (aO sh.enc 4 107))
  (hK:fY.cj W QR QN QE QP (.ptr vr 0) (.ptr vs 0) (.sc (.bool (b||(!sh.num&&!decide (r.num=0))))) h):fY.cX W QR QN QE QP (.ptr vr 0) (.ptr vs 0) (.sc (.bool b)) h:=by
 revert hK
 cases b<;>cases hx:sh.num<;>by_cases he:r.num=0<;>intro hK<;>simp[-fY.cj,hv,hs,au,Shape.enc,hx,he,iE]at hK ⊢<;>exact hK
theorem Xc{b:Bool}(hv:h.obj vr=some (aO (au (r,a)) 6 46))(hs:h.obj vs=some (aO sh.enc 4 107))(ha:aW a=false/\∀K:AV->Prop,bL a K=K (.sc (.int .i64 r.args.length)))
  (hK:fY.bZ W QR QN QE QP (.ptr vr 0) (.ptr vs 0) (.sc (.bool (b||(decide (0<=sh.args)&&!decide ((r.args.length:Int)=sh.args))))) h):fY.cj W QR QN QE QP (.ptr vr 0) (.ptr vs 0) (.sc (.bool b)) h:=by
 revert hK
 cases b<;>by_cases hx:0<=sh.args<;>by_cases he:(r.args.length:Int)=sh.args<;>intro hK<;>simp[-fY.bZ,hv,hs,au,Shape.enc,hx,he,ha.1,ha.2,iE]at hK ⊢<;>exact hK
theorem Xb{b:Bool}(hv:h.obj vr=some (aO (au (r,a)) 6 46))(hs:h.obj vs=some (aO sh.enc 4 107))
  (hK:fY.bC W QR QN QE QP (.ptr vr 0) (.sc (.bool (b||(!sh.body&&!decide (r.rows=0))))) h):fY.bZ W QR QN QE QP (.ptr vr 0) (.ptr vs 0) (.sc (.bool b)) h:=by
 revert hK
 cases b<;>cases hx:sh.body<;>by_cases he:r.rows=0<;>intro hK<;>simp[-fY.bC,hv,hs,au,Shape.enc,hx,he,iE]at hK ⊢<;>exact hK
theorem Oj(hv:h.obj vr=some (aO (au (r,a)) 6 46))(hs:h.obj vs=some (aO sh.enc 4 107))(ha:aW a=false/\∀K:AV->Prop,bL a K=K (.sc (.int .i64 r.args.length)))(hn:r.name.size<9223372036854775807)
  (hf:lq sh ok r=false->QR [.sc (.bool false)] h) (ht:lq sh ok r=true->fY.bu W QR QN QE QP (.ptr vr 0) h):fY.gI W QR QN QE QP (.ptr vr 0) (.ptr vs 0) (.sc (.bool ok)) h:=by
 have key:∀b:Bool,b=(!ok||!(sh.name==gG r.name))->fY.fq W QR QN QE QP (.ptr vr 0) (.ptr vs 0) (.sc (.bool b)) h:=by
  intro b hb
  refine Xf hv hs (Xe hv hs (Xd hv hs (Xc hv hs ha (Xb hv hs ?_))))
  have he:(((((b||(!sh.name&&!decide (r.name=ByteArray.empty)))||(sh.num&&!py r.num))||(!sh.num&&!decide (r.num=0)))||(decide (0<=sh.args)&&!decide ((r.args.length:Int)=sh.args)))||(!sh.body&&!decide (r.rows=0)))=!lq sh ok r:=by
   rw[hb];unfold lq
   have:decide (sh.args<0)=!decide (0<=sh.args):=by by_cases hx:sh.args<0<;>by_cases hy:0<=sh.args<;>simp[hx,hy]<;>omega
   rw[this]
   simp only[Bool.not_and,Bool.not_or,Bool.not_not]
  rw[he]
  cases hh:lq sh ok r with
  |true=>simp[-fY.bu];exact ht hh
  |false=>simp[-fY.bu];exact hf hh
 cases ok with
 |false=>
  simp[-fY.fq]
  exact key true (by simp)
 |true=>
 simp[-fY.fq,hs,hv,au,Shape.enc]
 refine⟨fun _=>False,fun _ h=>h.elim,vS hn ?_⟩
 simp only[CI XQ]
 have:=key _ rfl
 simpa[-fY.fq] using this
theorem Sg{i n:Nat}{x:AV}{va:Nat}{g:Arg}(hv:h.obj vr=some (aO (au (r,a)) 6 46))(hg:h.obj va=some (aO g.enc 2 67))(hn:g.name.size<9223372036854775807)
  (hf:jo (decide (r.kind=aY)) g=false->QR [.sc (.bool false)] h) (ht:jo (decide (r.kind=aY)) g=true->fY.n2 W QR QN QE QP (.ptr vr 0) x (.sc (.int .i64 n)) (.sc (.int .i64 i)) h) :
  fY.a_ W QR QN QE QP (.ptr vr 0) (.ptr va 0) x (.sc (.int .i64 n)) (.sc (.int .i64 i)) h:=by
 have fin:∀b:Bool,b=!jo (decide (r.kind=aY)) g->fY.n4 W QR QN QE QP (.ptr vr 0) x (.sc (.int .i64 n)) (.sc (.int .i64 i)) (.sc (.bool b)) h:=by
  intro b hb
  cases hh:jo (decide (r.kind=aY)) g with
  |true=>rw[hb,hh];simp[-fY.n2];exact ht hh
  |false=>rw[hb,hh];simp[-fY.n2];exact hf hh
 unfold jo at fin
 simp[-fY.aQ,hg,Arg.enc]
 refine⟨fun _=>False,fun _ h=>h.elim,vS hn ?_⟩
 simp[-fY.n4,hg,hv,au,Arg.enc]
 by_cases h1:gG g.name=true
 ·by_cases h2:g.index < -1
  ·simp[-fY.n4,h1,h2]
   exact fin true (by simp[h1];omega)
  ·by_cases h3:9007199254740991<g.index
   ·simp[-fY.n4,h1,h2,h3]
    exact fin true (by simp[h1];omega)
   ·by_cases h4:r.kind=aY
    ·simp[-fY.n4,h1,h2,h3,h4,aY,iE]
     refine fin _ ?_
     have e2:-1<=g.index:=by omega
     have e3:g.index<=9007199254740991:=by omega
     simp[h1,h4,e2,e3]
    ·simp[-fY.n4,h1,h2,h3,h4]
     have e2:-1<=g.index:=by omega
     have e3:g.index<=9007199254740991:=by omega
     exact fin _ (by simp[h1,h4,e2,e3])
 ·simp[-fY.n4,h1]
  exact fin true (by simp[h1])
theorem Oi{y:Row×AV}(hW:∀id,h.next<=id->W id)(hv:h.obj vr=some (aO (au y) 6 46))(ha:cf Arg.enc 2 67 h y.2 y.1.args)(hn:∀g∈y.1.args,g.name.size<9223372036854775807)(hl:y.1.args.length<=1000000000)
  (hR:∀h',Fr h h' (fun _=>False)->QR [.sc (.bool (y.1.args.all (jo (decide (y.1.kind=aY)))))] h'):fY.bu W QR QN QE QP (.ptr vr 0) h:=by
 simp[hv,au,ha.len.1,ha.len.2]
 unfold fY.bg
 refine bX (ι:=Nat) (fun i vs h'=>vs=[.ptr vr 0,y.2,.sc (.int .i64 y.1.args.length),.sc (.int .i64 i)]/\i<=y.1.args.length/\Fr h h' (fun _=>False)/\(y.1.args.drop i).all (jo (decide (y.1.kind=aY)))=y.1.args.all (jo (decide (y.1.kind=aY)))) (fun i=>y.1.args.length-i) 0 ?_ ?_
 ·exact⟨rfl,by omega,Fr.refl,rfl⟩
 rintro K i vs h' ⟨rfl,hi,hf,he⟩ hK
 simp only[fY.cn,zN,zO]
 by_cases aM:i<y.1.args.length
 ·have dh:(i:Int)<y.1.args.length:=by omega
  have g1:y.1.args[i]?=some y.1.args[i]:=zJ aM
  rw[List.drop_eq_getElem_cons aM,List.all_cons]at he
  have Uw:=hn _ (List.getElem_mem aM)
  generalize y.1.args[i]=g at *
  simp[-fY.bn,dh]
  refine hZ (ha.bp hf) Arg.ci (Arg.gL _) g1 rfl rfl (fun id hid=>hW id (zR hf.next hid)) fun vn h2 f2 qe hov=>?_
  have K6:Fr h h2 (fun _=>False):=hf.trans (f2.mono fun _ h=>h.elim)
  refine Sg (r:=y.1) (a:=y.2) (K6.obj hv (fun h=>h)) hov Uw (fun hb=>?_) (fun hb=>?_)
  ·rw[hb]at he
   have:=hR h2 K6
   rw[<-he]at this
   exact this
  ·rw[hb]at he
   have hw:IntKind.i64.wrap ((i:Int)+1)=((i+1:Nat):Int):=by rw[aL (by omega) (by omega)];simp
   simp[hw]
   exact hK (i+1) _ _ (by omega) ⟨by simp,by omega,K6,by simpa using he⟩
 ·have df:¬(i:Int)<y.1.args.length:=by omega
  rw[List.drop_eq_nil_of_le (by omega)]at he
  simp[df]
  have:=hR h' hf
  rw[<-he]at this
  exact this
theorem mr{y:Row×AV}(ha:cf Arg.enc 2 67 h y.2 y.1.args):(au y).all cB=true:=by
 show(true&&(true&&(cB y.2&&(true&&(true&&(true&&true))))))=true
 rw[ha.one.1];rfl
theorem MC{y:Row×AV}{R:AE->AH->Prop}(ha:cf Arg.enc 2 67 h y.2 y.1.args)(hn:y.1.name.size<9223372036854775807)(K0:∀g∈y.1.args,g.name.size<9223372036854775807)(hl:y.1.args.length<=1000000000)
  (hR:∀h',Fr h h' (fun _=>False)->R (.ret (.sc (.bool (j9 y.1)))) h'):ay Pg 49 [.agg (au y)] h M R:=by
 apply fY.aI
 unfold fY.iQ
 have kY:=mr ha
 refine cW kY fun vr h1 f1 gK ov=>?_
 simp[-fY.gI,ov,au]
 refine⟨fun _=>False,fun _ h=>h.elim,Ar fun h2 f2=>?_⟩
 simp only[dx,ah,zA,zB]
 refine gH (by rfl) rfl rfl rfl (fun id hid=>.inr (by have:=f1.next;have:=f2.next;omega)) fun vs h3 f3 wq os=>?_
 have g3:=f1.bO (f2.bO f3)
 refine Oj (r:=y.1) (a:=y.2) ((f2.bO f3).bQ ov) os ⟨ha.len.1,ha.len.2⟩ hn (fun hb=>?_) (fun hb=>?_)
 ·simp
  have:=hR h3 g3
  unfold j9 at this
  rw[hb]at this
  exact this
 ·refine Oi (y:=y) (fun id hid=>.inr (by have:=g3.next;omega)) ((f2.bO f3).bQ ov) (ha.bp g3) K0 hl fun h4 f4=>?_
  simp
  have:=hR h4 (g3.bO f4)
  unfold j9 at this
  rw[hb]at this
  exact this
end
end
section
open Go.Ab
attribute [-simp] aN aD
def tZ(want:Int)(free:Bool)(l:List Arg):Bool:=(decide (want<0)||decide ((l.length:Int)=want))&&l.all (jo (!free))
section
variable {h:AH} {M W:Nat->Prop} {R:AE->AH->Prop} {QR QN:VK} {QE:Nat->VK} {QP:AV->AH->Prop} {r:Row} {a:AV} {sh:Shape} {ok:Bool}
theorem W3{i:Nat}{x:AV}{g:Arg}{free b:Bool}{l:List Arg}(hx:cf Arg.enc 2 67 h x l)(hg:l[i]?=some g)
  (hK:jt.aP W QR QN QE QP x (.sc (.bool free)) (.sc (.int .i64 i)) (.sc (.bool (b||decide (g.index < -1)))) h):jt.aQ W QR QN QE QP x (.sc (.bool free)) (.sc (.int .i64 i)) (.sc (.bool b)) h:=by
 cases b
 ·simp only[jt.aQ,dl,zT,zE,zC,zI,zD]
  refine dC (k:=1) hx Arg.ci hg (by omega) (by rfl) fun q=>?_
  simp[-jt.aP]at hK ⊢;exact hK
 ·simp[-jt.aP]at hK ⊢;exact hK
theorem W2{i:Nat}{x:AV}{g:Arg}{free b:Bool}{l:List Arg}(hx:cf Arg.enc 2 67 h x l)(hg:l[i]?=some g)
  (hK:jt.n8 W QR QN QE QP x (.sc (.bool free)) (.sc (.int .i64 i)) (.sc (.bool (b||decide (9007199254740991<g.index)))) h):jt.aP W QR QN QE QP x (.sc (.bool free)) (.sc (.int .i64 i)) (.sc (.bool b)) h:=by
 cases b
 ·simp only[jt.aP,dl,zT,zE,zC,zI,zD]
  refine dC (k:=1) hx Arg.ci hg (by omega) (by rfl) fun q=>?_
  simp[-jt.n8]at hK ⊢;exact hK
 ·simp[-jt.n8]at hK ⊢;exact hK
theorem W1{i:Nat}{x:AV}{g:Arg}{free b:Bool}{l:List Arg}(hx:cf Arg.enc 2 67 h x l)(hg:l[i]?=some g)
  (hK:jt.n4 W QR QN QE QP x (.sc (.bool free)) (.sc (.int .i64 i)) (.sc (.bool (b||(!free&&!decide (g.index=-1))))) h):jt.n8 W QR QN QE QP x (.sc (.bool free)) (.sc (.int .i64 i)) (.sc (.bool b)) h:=by
 cases b
 ·cases free
  ·simp only[jt.n8,jt.n7,dR,dl,zT,zS,zF,zE,zC,zI,zD]
   refine dC (k:=1) hx Arg.ci hg (by omega) (by rfl) fun q=>?_
   simp[-jt.n4,iE]at hK ⊢;exact hK
  ·simp[-jt.n4]at hK ⊢;exact hK
 ·simp[-jt.n4]at hK ⊢;exact hK
theorem Sa{i:Nat}{x:AV}{g:Arg}{free:Bool}{l:List Arg}(hx:cf Arg.enc 2 67 h x l)(hg:l[i]?=some g)(hn:g.name.size<9223372036854775807)
  (hf:jo (!free) g=false->QR [.sc (.bool false)] h) (ht:jo (!free) g=true->jt.n2 W QR QN QE QP x (.sc (.bool free)) (.sc (.int .i64 i)) h) :
  jt.a_ W QR QN QE QP x (.sc (.bool free)) (.sc (.int .i64 i)) h:=by
 unfold jt.a_
 refine dC (k:=0) hx Arg.ci hg (by omega) (by rfl) fun q=>?_
 refine⟨fun _=>False,fun _ h=>h.elim,EC hn ?_⟩
 simp only[dR]
 refine W3 hx hg (W2 hx hg (W1 hx hg ?_))
 have e:(((!gG g.name)||decide (g.index < -1)||decide (9007199254740991<g.index))||(!free&&!decide (g.index=-1)))=!jo (!free) g:=by
  unfold jo
  have e1:decide (g.index < -1)=!decide (-1<=g.index):=by by_cases hx:g.index < -1<;>by_cases hy:-1<=g.index<;>simp[hx,hy]<;>omega
  have e2:decide (9007199254740991<g.index)=!decide (g.index<=9007199254740991):=by by_cases hx:9007199254740991<g.index<;>by_cases hy:g.index<=9007199254740991<;>simp[hx,hy]<;>omega
  rw[e1,e2]
  simp only[Bool.not_and,Bool.not_or,Bool.not_not]
 rw[e]
 cases hh:jo (!free) g with
 |true=>simp[-jt.n2];exact ht hh
 |false=>simp[-jt.n2];exact hf hh
theorem R1{x:AV}{l:List Arg}{want:Int}{free:Bool}(hx:cf Arg.enc 2 67 h x l)(hn:∀g∈l,g.name.size<9223372036854775807)(hl:l.length<=1000000000)
  (hR:R (.ret (.sc (.bool (tZ want free l)))) h):ay Pg 74 [x,.sc (.int .i64 want),.sc (.bool free)] h M R:=by
 apply jt.aI
 have loop:(decide (want<0)||decide ((l.length:Int)=want))=true->jt.bg (fun id=>M id\/h.next<=id) (aH Pg [.tmp 6] R) (aH Pg [.tmp 6] R) (fun _ _ _=>False) (fun v h=>R (.bV v) h) x (.sc (.bool free)) h:=by
  intro hw
  unfold tZ at hR
  rw[hw,Bool.true_and]at hR
  unfold jt.bg jt.aZ
  refine bX (ι:=Nat) (fun i vs h'=>vs=[x,.sc (.bool free),.sc (.int .i64 i)]/\i<=l.length/\h'=h/\(l.drop i).all (jo (!free))=l.all (jo (!free))) (fun i=>l.length-i) 0 ?_ ?_
  ·exact⟨rfl,by omega,rfl,rfl⟩
  rintro K i vs h' ⟨rfl,hi,rfl,he⟩ hK
  simp only[jt.cn,zN,zO]
  by_cases aM:i<l.length
  ·have dh:(i:Int)<l.length:=by omega
   have g1:l[i]?=some l[i]:=zJ aM
   rw[List.drop_eq_getElem_cons aM,List.all_cons]at he
   have Uw:=hn _ (List.getElem_mem aM)
   generalize l[i]=g at *
   simp[-jt.a_,dh,hx.len.1,hx.len.2]
   refine Sa hx g1 Uw (fun hb=>?_) (fun hb=>?_)
   ·rw[hb]at he
    rw[<-he]at hR
    exact hR
   ·rw[hb]at he
    have hw:IntKind.i64.wrap ((i:Int)+1)=((i+1:Nat):Int):=by rw[aL (by omega) (by omega)];simp
    simp[hw]
    exact hK (i+1) _ _ (by omega) ⟨by simp,by omega,rfl,by simpa using he⟩
  ·have df:¬(i:Int)<l.length:=by omega
   rw[List.drop_eq_nil_of_le (by omega)]at he
   rw[<-he]at hR
   simp[df,hx.len.1,hx.len.2]
   exact hR
 by_cases h0:0<=want
 ·by_cases h1:(l.length:Int)=want
  ·simp[-jt.bg,h0,h1,hx.len.1,hx.len.2]
   exact loop (by simp[h1])
  ·have h2:¬want<0:=by omega
   simp[-jt.bg,h0,h1,hx.len.1,hx.len.2,iE]
   unfold tZ at hR
   simpa[h1,h2] using hR
 ·simp[-jt.bg,h0]
  exact loop (by simp;omega)
end
end
section
open Go.Ab
attribute [-simp] aN aD
def lD(r:Row):Bool:=j9 r&&decide (0<=r.rows)
section
variable {h:AH} {M W:Nat->Prop} {R:AE->AH->Prop} {QR QN:VK} {QE:Nat->VK} {QP:AV->AH->Prop} {vr:Nat} {r:Row} {a:AV} {sh:Shape} {b:Bool}
abbrev B(b:Bool):AV:=.sc (.bool b)
abbrev I(n:Int):AV:=.sc (.int .i64 n)
theorem Xk(hn:r.name.size<9223372036854775807)(hv:h.obj vr=some (aO (au (r,a)) 6 46))
  (hK:iw.bu W QR QN QE QP (.ptr vr 0) (B sh.num) (B sh.body) (I sh.args) (B (b||(sh.name&&!gG r.name))) h):iw.bG W QR QN QE QP (.ptr vr 0) (B sh.name) (B sh.num) (B sh.body) (I sh.args) (B b) h:=by
 cases b
 ·cases hx:sh.name
  ·simp[-iw.bu,hx]at hK ⊢;exact hK
  ·rw[hx]at hK
   simp[-iw.bu,hv,au]at hK ⊢
   exact⟨fun _=>False,fun _ h=>h.elim,EC hn (by simp[-iw.bu];exact hK)⟩
 ·cases hx:sh.name<;>simp[-iw.bu]at hK ⊢<;>exact hK
theorem Xj(hv:h.obj vr=some (aO (au (r,a)) 6 46))
  (hK:iw.aZ W QR QN QE QP (.ptr vr 0) (B sh.num) (B sh.body) (I sh.args) (B (b||decide (r.rows<0))) h):iw.bu W QR QN QE QP (.ptr vr 0) (B sh.num) (B sh.body) (I sh.args) (B b) h:=by
 cases b<;>simp[-iw.aZ,hv,au]at hK ⊢<;>exact hK
theorem Xi(hv:h.obj vr=some (aO (au (r,a)) 6 46))
  (hK:iw.aQ W QR QN QE QP (.ptr vr 0) (B sh.num) (I sh.args) (B (b||(!sh.body&&!decide (r.rows=0)))) h):iw.aZ W QR QN QE QP (.ptr vr 0) (B sh.num) (B sh.body) (I sh.args) (B b) h:=by
 cases b<;>cases hx:sh.body<;>simp[-iw.aQ,hv,au,hx,iE]at hK ⊢<;>exact hK
theorem Xh(hv:h.obj vr=some (aO (au (r,a)) 6 46))
  (hK:iw.n7 W QR QN QE QP (.ptr vr 0) (B sh.num) (I sh.args) (B (decide (r.num<0)||decide (9007199254740991<r.num))) h):iw.aP W QR QN QE QP (.ptr vr 0) (B sh.num) (I sh.args) h:=by
 by_cases hx:r.num<0<;>simp[-iw.n7,hv,au,hx]at hK ⊢<;>exact hK
theorem Xg(hv:h.obj vr=some (aO (au (r,a)) 6 46))
  (hK:iw.n3 W QR QN QE QP (.ptr vr 0) (I sh.args) (B (b||(!sh.num&&!decide (r.num=0)))) h):iw.n7 W QR QN QE QP (.ptr vr 0) (B sh.num) (I sh.args) (B b) h:=by
 cases b<;>cases hx:sh.num<;>simp[-iw.n3,hv,au,hx,iE]at hK ⊢<;>exact hK
def uF(sh:Shape)(r:Row):Bool:=(sh.name==!decide (r.name=ByteArray.empty))&&(!sh.name||gG r.name)&&decide (0<=r.rows)&&(sh.body||decide (r.rows=0))&&decide (0<=r.num)&&decide (r.num<=9007199254740991)&&(sh.num||decide (r.num=0))&&tZ sh.args (!decide (r.kind=aY)) r.args
theorem Ok(hv:h.obj vr=some (aO (au (r,a)) 6 46))(ha:cf Arg.enc 2 67 h a r.args)(hn:r.name.size<9223372036854775807)(K0:∀g∈r.args,g.name.size<9223372036854775807)(hl:r.args.length<=1000000000)
  (hR:QR [B (uF sh r)] h):iw.bD W QR QN QE QP (.ptr vr 0) (B sh.name) (B sh.num) (B sh.body) (I sh.args) h:=by
 have h7:(b:Bool)->b=(decide (r.num<0)||decide (9007199254740991<r.num))->sh.name=(!decide (r.name=ByteArray.empty))->(!sh.name||gG r.name)=true->0<=r.rows->(sh.body||decide (r.rows=0))=true->iw.n7 W QR QN QE QP (.ptr vr 0) (B sh.num) (I sh.args) (B b) h:=by
  intro b hb h1 h2 h3 h4
  refine Xg hv ?_
  have e1:decide (r.num<0)=!decide (0<=r.num):=by by_cases hx:r.num<0<;>by_cases hy:0<=r.num<;>simp[hx,hy]<;>omega
  have e2:decide (9007199254740991<r.num)=!decide (r.num<=9007199254740991):=by by_cases hx:9007199254740991<r.num<;>by_cases hy:r.num<=9007199254740991<;>simp[hx,hy]<;>omega
  have e:(b||(!sh.num&&!decide (r.num=0)))=!(decide (0<=r.num)&&decide (r.num<=9007199254740991)&&(sh.num||decide (r.num=0))):=by
   rw[hb,e1,e2];simp only[Bool.not_and,Bool.not_or,Bool.not_not]
  have f:uF sh r=((decide (0<=r.num)&&decide (r.num<=9007199254740991)&&(sh.num||decide (r.num=0)))&&tZ sh.args (!decide (r.kind=aY)) r.args):=by
   unfold uF
   rw[h2,h4,<-h1,zL h3]
   simp[Bool.and_assoc]
  rw[e]
  rw[f]at hR
  cases hc:(decide (0<=r.num)&&decide (r.num<=9007199254740991)&&(sh.num||decide (r.num=0))) with
  |false=>rw[hc]at hR;simpa using hR
  |true=>
   rw[hc]at hR
   simp[hv,au]
   refine⟨fun _=>False,fun _ h=>h.elim,R1 ha K0 hl ?_⟩
   simpa[aY] using hR
 have pb:(b:Bool)->b=!((sh.name==!decide (r.name=ByteArray.empty))&&(!sh.name||gG r.name)&&decide (0<=r.rows)&&(sh.body||decide (r.rows=0)))->iw.aQ W QR QN QE QP (.ptr vr 0) (B sh.num) (I sh.args) (B b) h:=by
  intro b hb
  cases b
  ·have jI:=congrArg Bool.not hb
   simp only[Bool.not_not,zT]at jI
   have vp:=jI.symm
   simp only[yC,beq_iff_eq,decide_eq_true_eq]at vp
   simp[-iw.aP]
   exact Xh hv (h7 _ rfl vp.1.1.1 vp.1.1.2 vp.1.2 vp.2)
  ·have f:uF sh r=false:=by
    unfold uF
    have jI:=congrArg Bool.not hb
    simp only[Bool.not_not,zS]at jI
    rw[<-jI]
    simp
   rw[f]at hR
   simpa using hR
 have qj:(b:Bool)->b=!(sh.name==!decide (r.name=ByteArray.empty))->iw.bG W QR QN QE QP (.ptr vr 0) (B sh.name) (B sh.num) (B sh.body) (I sh.args) (B b) h:=by
  intro b hb
  refine Xk hn hv (Xj hv (Xi hv (pb _ ?_)))
  rw[hb]
  have e1:decide (r.rows<0)=!decide (0<=r.rows):=by by_cases hx:r.rows<0<;>by_cases hy:0<=r.rows<;>simp[hx,hy]<;>omega
  rw[e1]
  simp only[Bool.not_and,Bool.not_or,Bool.not_not]
 simp[-iw.bG,hv,au]
 rw[CI XQ]
 exact qj _ rfl
theorem Em{s:ByteArray}(h:gG s=true):s≠ByteArray.empty:=by
 intro e
 subst e
 simp[gG,iB]at h
theorem Lo{sh:Shape}{r:Row}:uF sh r=(lq sh true r&&r.args.all (jo (decide (r.kind=aY)))&&decide (0<=r.rows)):=by
 unfold uF lq tZ py
 rw[Bool.not_not]
 have hp:gG r.name=true->¬r.name=ByteArray.empty:=Em
 cases h1:sh.name<;>cases h2:sh.num<;>cases h3:sh.body<;>cases h4:gG r.name<;>by_cases h5:r.name=ByteArray.empty<;>simp[h5] <;>
  simp_all<;>by_cases hz:r.num=0<;>(try simp[hz])<;>ac_rfl
theorem U5{y:Row×AV}{R:AE->AH->Prop}(ha:cf Arg.enc 2 67 h y.2 y.1.args)(hn:y.1.name.size<9223372036854775807)(K0:∀g∈y.1.args,g.name.size<9223372036854775807)(hl:y.1.args.length<=1000000000)
  (hR:∀h',Fr h h' (fun _=>False)->R (.ret (.sc (.bool (lD y.1)))) h'):ay Pg 42 [.agg (au y)] h M R:=by
 apply iw.aI
 unfold iw.gg
 refine cW (mr ha) fun vr h1 f1 gK ov=>?_
 simp[-iw.gh,ov,au]
 have fin:∀sh:Shape,lD y.1=uF sh y.1->iw.bD (fun id=>M id\/h.next<=id) (aH Pg [.tmp 2] R) (aH Pg [.tmp 2] R) (fun _ _ _=>False) (fun v h=>R (.bV v) h) (.ptr vr 0) (B sh.name) (B sh.num) (B sh.body) (I sh.args) h1:=by
  intro sh hs
  refine Ok (r:=y.1) (a:=y.2) ov (ha.bp f1) hn K0 hl ?_
  have:=hR h1 f1
  rw[hs]at this
  simpa using this
 have sp:∀sh:Shape,eo y.1.kind=(sh,true)->lD y.1=uF sh y.1:=by
  intro sh hs
  unfold lD j9
  rw[hs,Lo]
 unfold eo at sp
 by_cases k1:y.1.kind=aX
 ·simp[-iw.bD,k1,aX]
  exact fin ⟨true,true,0,false⟩ (sp _ (by simp[k1]))
 by_cases k2:y.1.kind=bK
 ·simp[-iw.bD,k2,bK]
  exact fin ⟨true,true,0,false⟩ (sp _ (by simp[k2]))
 by_cases k3:y.1.kind=aY
 ·simp[-iw.bD,k3,aY]
  exact fin ⟨true,false,-1,true⟩ (sp _ (by simp[k3,aX,bK,aY]))
 by_cases k4:y.1.kind=aK
 ·simp[-iw.bD,k4,aK]
  exact fin ⟨false,true,0,true⟩ (sp _ (by simp[k4,aX,bK,aY,aK]))
 by_cases k5:y.1.kind=c9
 ·simp[-iw.bD,k5,c9]
  exact fin ⟨true,true,0,true⟩ (sp _ (by simp[k5,aX,bK,aY,aK,c9]))
 by_cases k6:y.1.kind=be
 ·simp[-iw.bD,k6,be]
  exact fin ⟨false,false,2,false⟩ (sp _ (by simp[k6,aX,bK,aY,aK,c9,be]))
 by_cases k7:y.1.kind=ch
 ·simp[-iw.bD,k7,ch]
  exact fin ⟨false,false,1,false⟩ (sp _ (by simp[k7,aX,bK,aY,aK,c9,be,ch]))
 by_cases k8:y.1.kind=bP
 ·simp[-iw.bD,k8,bP]
  exact fin ⟨true,false,-1,false⟩ (sp _ (by simp[k8,aX,bK,aY,aK,c9,be,ch,bP]))
 have hf:lD y.1=false:=by
  unfold lD j9 eo
  simp[k1,k2,k3,k4,k5,k6,k7,k8,lq]
 unfold aX at k1;unfold bK at k2;unfold aY at k3;unfold aK at k4;unfold c9 at k5;unfold be at k6;unfold ch at k7;unfold bP at k8
 have:=hR h1 f1
 rw[hf]at this
 simpa[k1,k2,k3,k4,k5,k6,k7,k8] using this
end
end
section
open Go.Ab
attribute [-simp] aN aD
abbrev bs(l:List UInt8):ByteArray:=⟨l.toArray⟩
abbrev ls(s:ByteArray):List UInt8:=s.data.toList
abbrev S(l:List UInt8):AV:=.sc (.string (bs l))
theorem Vh(a b:List UInt8):bs a++bs b=bs (a++b):=by
 apply ByteArray.ext;simp[bs]
theorem xR(l:List UInt8):(bs l).size=l.length:=rfl
theorem jN{t:TypeId}{c:Bool}{a b:List UInt8}{K:AV->Prop}:aa Pg .add t c (S a) (S b) K=(a.length+b.length<9223372036854775808/\K (S (a++b))):=by
 rw[sy,Vh];rfl
section
variable {h:AH} {M W:Nat->Prop} {R:AE->AH->Prop} {QR QN:VK} {QE:Nat->VK} {QP:AV->AH->Prop} {vr:Nat} {r:Row} {a:AV} {sh:Shape} {b:Bool}
theorem xD{n:Nat}(hn:n<256){K:AV->AH->Prop}(hK:∀h',Fr h h' (fun _=>False)->K (S [UInt8.ofNat n]) h') :
  db (some (1,5,[.int .u8 0])) 1 [(0,.sc (.int .u8 n))] h fun t h'=>qx t h' fun v _=>K v h':=by
 refine⟨[.sc (.int .u8 n)],⟨by simp[dS],by simp⟩,?_⟩
 refine⟨_,[UInt8.ofNat n],⟨AH.cK h _,rfl,by simp,?_⟩,hK _ (Fr.refl.alloc _)⟩
 simp[jm];omega
theorem Bw:∀(k:Nat){n:Nat}{h:AH}{M:Nat->Prop}{R:AE->AH->Prop},n<k->n<=9223372036854775807->(∀h',Fr h h' (fun _=>False)->R (.ret (S (Lib.decDigits n))) h')->ay Pg 75 [I n] h M R
 |0,_,_,_,_,h,_,_=>by omega
 |k+1,n,h,M,R,hk,hn,hR=>by
  apply xj.aI
  by_cases kV:n<10
  ·have h1:(n:Int)<10:=by omega
   have w1:IntKind.i64.wrap (48+(n:Int))=((48+n:Nat):Int):=by rw[aL (by omega) (by omega)];simp
   have w2:IntKind.u8.wrap ((48+n:Nat):Int)=((48+n:Nat):Int):=IntWalk.u8_in _ (by omega)
   simp only[xj.n6,xj.n5,xj.n4,xj.n3,ba,ao,h1,decide_true,zF,zC,zD,zI,aR,w1,AF,w2]
   refine xD (by omega) fun h' hf=>?_
   have:=hR h' hf
   rw[Lib.decDigits_one kV]at this
   simpa using this
  ·have h1:¬(n:Int)<10:=by omega
   have q1:IntKind.i64.wrap ((n:Int).tdiv 10)=((n/10:Nat):Int):=by
    rw[show((n:Int).tdiv 10)=((n/10:Nat):Int) from by rw[Int.tdiv_eq_ediv_of_nonneg (by omega)];omega,aL (by omega) (by omega)]
   have q2:(n:Int).tmod 10=((n%10:Nat):Int):=by rw[Int.tmod_eq_emod_of_nonneg (by omega)];omega
   have w1:IntKind.i64.wrap (48+((n%10:Nat):Int))=((48+n%10:Nat):Int):=by rw[aL (by omega) (by omega)];simp
   have w2:IntKind.u8.wrap ((48+n%10:Nat):Int)=((48+n%10:Nat):Int):=IntWalk.u8_in _ (by omega)
   have hd:Lib.decDigits n=Lib.decDigits (n/10)++[UInt8.ofNat (48+n%10)]:=by rw[Lib.decDigits,dif_neg kV]
   have hlen:(Lib.decDigits (n/10)).length+1<9223372036854775808:=by
    have:=Lib.itoa_length_le (n/10:Nat) (by omega) (by omega)
    rw[Lib.itoa_nonneg]at this
    omega
   simp only[xj.n6,xj.n5,xj.n4,xj.n2,xj.n1,ba,ao,h1,decide_false,zE,zC,zD,zH,aR,Es,Ep,q1,q2,w1,AF,w2,zI]
   refine⟨by omega,by omega,?_,?_⟩
   ·refine⟨fun _=>False,fun _ h=>h.elim,Bw k (by omega) (by omega) fun h1 f1=>?_⟩
    refine xD (by omega) fun h' hf=>?_
    show aa Pg .add 9 false (S _) (S _) _
    rw[jN,<-hd]
    have:=hR h' (f1.bO hf)
    exact⟨by simpa using hlen,by simpa using this⟩
   ·refine xD (by omega) fun h1 f1=>?_
    refine⟨fun _=>False,fun _ h=>h.elim,Bw k (by omega) (by omega) fun h' hf=>?_⟩
    show aa Pg .add 9 false (S _) (S _) _
    rw[jN,<-hd]
    have:=hR h' (f1.bO hf)
    exact⟨by simpa using hlen,by simpa using this⟩
def qE(g:Arg):List UInt8:=ls g.name++(if g.index<0 then[] else 91::(Lib.itoa g.index++[93]))
theorem Mp{g:Arg}(hn:g.name.size<=1000000)(h0:g.index<=9007199254740991)(hR:∀h',Fr h h' (fun _=>False)->R (.ret (S (32::qE g))) h'):ay Pg 76 [.agg g.enc] h M R:=by
 apply VL.aI
 unfold VL.n6
 refine cW (Arg.gL g) fun vr h1 f1 gK ov=>?_
 have Qk:(⟨#[32]⟩:ByteArray).size=1:=rfl
 have YR:(⟨#[91]⟩:ByteArray).size=1:=rfl
 have YQ:(⟨#[93]⟩:ByteArray).size=1:=rfl
 by_cases hi:g.index<0
 ·simp[ov,Arg.enc,hi]
  refine⟨by omega,?_⟩
  have e:(⟨#[32]⟩:ByteArray)++g.name=bs (32::qE g):=by apply ByteArray.ext;simp[bs,ls,qE,hi]
  rw[e];exact hR h1 f1
 ·simp[ov,Arg.enc,hi]
  refine⟨by omega,by omega,fun _=>False,fun _ h=>h.elim,?_⟩
  have e:(⟨#[32]⟩:ByteArray)++g.name++⟨#[91]⟩=bs (32::ls g.name++[91]):=by apply ByteArray.ext;simp[bs,ls]
  have vj:g.index=((g.index.toNat:Nat):Int):=by omega
  have hd:Lib.decDigits g.index.toNat=Lib.itoa g.index:=by rw[<-Lib.itoa_nonneg,<-vj]
  have hlen:=Lib.itoa_length_le g.index (by omega) (by omega)
  rw[e,vj]
  refine Bw (g.index.toNat+1) (by omega) (by omega) fun h2 f2=>?_
  rw[hd]
  show aa Pg .add 9 false (S _) (S _) _
  rw[jN]
  refine⟨by simp;omega,?_⟩
  show aa Pg .add 9 true (S _) (S [93]) _
  rw[jN]
  refine⟨by simp;omega,?_⟩
  have:=hR h2 (f1.bO f2)
  simpa[qE,hi] using this
end
end
section
open Go.Ab
attribute [-simp] aN aD
def ik(l:List Arg):List UInt8:=l.flatMap fun g=>32::qE g
theorem DD(a b:List Arg):ik (a++b)=ik a++ik b:=by simp[ik]
def qy(k:ByteArray):Bool:=decide (k=aX)||decide (k=bK)||decide (k=aK)||decide (k=c9)
def lP(r:Row):List UInt8:=if r.kind=bP then ls r.name else if r.name=ByteArray.empty then ls r.kind else ls r.kind++32::ls r.name
def ky(r:Row):List UInt8:=lP r++(if qy r.kind then 32::Lib.itoa r.num else[])++ik r.args
structure lG (r:Row):Prop where
 kind:r.kind.size<=100000
 name:r.name.size<=100000
 args:∀g∈r.args,g.name.size<=100000
 len:r.args.length<=90000
 all:(r.args.map fun g=>g.name.size+30).sum<=10000000
def tD(r:Row):Prop:=∀g∈r.args,g.index<=9007199254740991
theorem NU{g:Arg}(h:g.index<=9007199254740991):(qE g).length+1<=g.name.size+30:=by
 have e:(ls g.name).length=g.name.size:=rfl
 unfold qE
 by_cases hi:g.index<0
 ·simp only[hi,zV,List.append_nil];omega
 ·have:=Lib.itoa_length_le g.index (by omega) (by omega)
  simp only[hi,if_false,List.length_append,List.length_cons,List.length_nil];omega
theorem s_:∀{l:List Arg},(∀g∈l,g.index<=9007199254740991)->(ik l).length<=(l.map fun g=>g.name.size+30).sum
 |[],_=>by simp[ik]
 |g::l,h=>by
  have h1:=NU (h g (by simp))
  have h2:=s_ (l:=l) (fun g hg=>h g (by simp[hg]))
  have e:ik (g::l)=(32::qE g)++ik l:=by simp[ik]
  rw[e]
  simp only[List.length_append,List.length_cons,List.map_cons,List.sum_cons]
  omega
section
variable {h:AH} {M W:Nat->Prop} {R:AE->AH->Prop} {QR QN:VK} {QE:Nat->VK} {QP:AV->AH->Prop} {vr:Nat} {r:Row} {a:AV} {sh:Shape} {b:Bool}
theorem Gk{y:Row×AV}{p:List UInt8}(hb:lG y.1)(hI:tD y.1)(hp:p.length<=1000000)(hv:h.obj vr=some (aO (au y) 6 46))(ha:cf Arg.enc 2 67 h y.2 y.1.args)(hW:∀id,h.next<=id->W id)
  (hR:∀h',Fr h h' (fun _=>False)->QR [S (p++ik y.1.args)] h'):km.n7 W QR QN QE QP (.ptr vr 0) (S p) h:=by
 unfold km.n7 km.n6
 refine bX (ι:=Nat) (fun i vs h'=>vs=[.ptr vr 0,S (p++ik (y.1.args.take i)),I i]/\i<=y.1.args.length/\Fr h h' (fun _=>False)) (fun i=>y.1.args.length-i) 0 ?_ ?_
 ·exact⟨by simp[ik],by omega,Fr.refl⟩
 rintro K i vs h' ⟨rfl,hi,hf⟩ hK
 simp only[km.cn,zN,zO]
 have KU:=hf.bQ hv
 have tU:=ha.bp hf
 by_cases aM:i<y.1.args.length
 ·have dh:(i:Int)<y.1.args.length:=by omega
  have g1:y.1.args[i]?=some y.1.args[i]:=zJ aM
  have gb:=hb.args _ (List.getElem_mem aM)
  have gi:=hI _ (List.getElem_mem aM)
  have Fb:=s_ hI
  have ht:ik (y.1.args.take (i+1))=ik (y.1.args.take i)++(32::qE y.1.args[i]):=by
   rw[List.take_succ_eq_append_getElem aM,DD];simp[ik]
  have PJ:(ik (y.1.args.take (i+1))).length<=(ik y.1.args).length:=by
   have:=congrArg List.length (congrArg ik (List.take_append_drop (i+1) y.1.args))
   rw[DD,List.length_append]at this
   omega
  generalize y.1.args[i]=g at *
  have kH:=hb.all
  have hlen:=hb.len
  simp[-km.n3,KU,au,tU.len.1,tU.len.2,dh]
  unfold km.n3
  simp only[al,aF,KU,aB,zG,au,zB,zA,ah]
  refine ll tU Arg.ci g1 fun q=>?_
  refine⟨fun _=>False,fun _ h=>h.elim,Mp (by omega) gi fun h2 f2=>?_⟩
  show aa Pg .add 9 false (S _) (S _) _
  rw[jN]
  have hw:IntKind.i64.wrap ((i:Int)+1)=((i+1:Nat):Int):=by rw[aL (by omega) (by omega)];simp
  rw[ht]at PJ
  simp only[List.length_append]at PJ ⊢
  refine⟨by omega,?_⟩
  simp only[km.n2,aR,hw]
  refine hK (i+1) _ _ (by omega) ⟨?_,by omega,hf.bO f2⟩
  rw[ht,List.append_assoc]
 ·have df:¬(i:Int)<y.1.args.length:=by omega
  have:=hR h' hf
  simp[KU,au,tU.len.1,tU.len.2,df]
  rwa [List.take_of_length_le (by omega)]
theorem Sh{y:Row×AV}{p:List UInt8}(hb:lG y.1)(hI:tD y.1)(hp:p.length<=900000)(h0:0<=y.1.num)(h1:y.1.num<=9007199254740991)(hv:h.obj vr=some (aO (au y) 6 46))(ha:cf Arg.enc 2 67 h y.2 y.1.args)(hW:∀id,h.next<=id->W id)
  (hR:∀h',Fr h h' (fun _=>False)->QR [S (p++(if qy y.1.kind then 32::Lib.itoa y.1.num else[])++ik y.1.args)] h'):km.bj W QR QN QE QP (.ptr vr 0) (S p) h:=by
 have k8:(b:Bool)->b=qy y.1.kind->km.n8 W QR QN QE QP (.ptr vr 0) (S p) (.sc (.bool b)) h:=by
  intro b jI
  cases b with
  |false=>
   simp[-km.n7]
   refine Gk hb hI (by omega) hv ha hW fun h' hf=>?_
   have:=hR h' hf
   rw[<-jI]at this
   simpa using this
  |true=>
   simp only[km.n8,ao,zF,zC,zD,zI]
   show aa Pg .add 9 true (S _) (S [32]) _
   rw[jN]
   refine⟨by simp;omega,?_⟩
   simp only[al,aF,hv,aB,zG,au,zB,zA,ah]
   have vj:y.1.num=((y.1.num.toNat:Nat):Int):=by omega
   have hd:Lib.decDigits y.1.num.toNat=Lib.itoa y.1.num:=by rw[<-Lib.itoa_nonneg,<-vj]
   have hlen:=Lib.itoa_length_le y.1.num (by omega) (by omega)
   refine⟨fun _=>False,fun _ h=>h.elim,?_⟩
   rw[vj]
   refine Bw (y.1.num.toNat+1) (by omega) (by omega) fun h2 f2=>?_
   rw[hd]
   show aa Pg .add 9 false (S _) (S _) _
   rw[jN]
   refine⟨by simp;omega,?_⟩
   refine Gk hb hI (by simp;omega) (f2.bQ hv) (ha.bp f2) (fun id hid=>hW id (zR f2.next hid)) fun h' hf=>?_
   have:=hR h' (f2.bO hf)
   rw[<-jI]at this
   simpa using this
 have:=k8 _ rfl
 unfold qy at this
 by_cases k1:y.1.kind=aX
 ·simp[-km.n8,k1]at this
  simp[-km.n8,hv,au,k1,aX]
  exact this
 by_cases k2:y.1.kind=bK
 ·simp[-km.n8,k2]at this
  simp[-km.n8,hv,au,k2,bK]
  exact this
 by_cases k4:y.1.kind=aK
 ·simp[-km.n8,k4]at this
  simp[-km.n8,hv,au,k4,aK]
  exact this
 by_cases k5:y.1.kind=c9
 ·simp[-km.n8,k5]at this
  simp[-km.n8,hv,au,k5,c9]
  exact this
 simp[-km.n8,k1,k2,k4,k5]at this
 unfold aX at k1;unfold bK at k2;unfold aK at k4;unfold c9 at k5
 simp[-km.n8,hv,au,k1,k2,k4,k5]
 exact this
theorem RG{y:Row×AV}{R:AE->AH->Prop}(hb:lG y.1)(hI:tD y.1)(h0:0<=y.1.num)(h1:y.1.num<=9007199254740991)(ha:cf Arg.enc 2 67 h y.2 y.1.args)
  (hR:∀h',Fr h h' (fun _=>False)->R (.ret (S (ky y.1))) h'):ay Pg 43 [.agg (au y)] h M R:=by
 apply km.aI
 unfold km.bE
 refine cW (mr ha) fun vr h1 f1 gK ov=>?_
 have iR:∀p,p=lP y.1->km.bj (fun id=>M id\/h.next<=id) (aH Pg [.tmp 2] R) (aH Pg [.tmp 2] R) (fun _ _ _=>False) (fun v h=>R (.bV v) h) (.ptr vr 0) (S p) h1:=by
  intro p hp
  have jH:p.length<=900000:=by
   rw[hp]
   have:=hb.kind;have:=hb.name
   unfold lP
   have e1:(ls y.1.kind).length=y.1.kind.size:=rfl
   have e2:(ls y.1.name).length=y.1.name.size:=rfl
   split
   ·omega
   ·split
    ·omega
    ·simp only[List.length_append,List.length_cons];omega
  refine Sh hb hI jH h0 (by assumption) ov (ha.bp f1) (fun id hid=>.inr (zR f1.next hid)) fun h' hf=>?_
  have:=hR h' (f1.bO hf)
  rw[hp]
  simpa[ky] using this
 have Qk:(⟨#[32]⟩:ByteArray).size=1:=rfl
 have:=hb.kind;have:=hb.name
 by_cases ku:y.1.kind=bP
 ·have e:lP y.1=ls y.1.name:=by simp[lP,ku]
  have k:=iR _ e.symm
  simp[-km.bj,ov,au,ku,bP]
  exact k
 ·by_cases hn:y.1.name=ByteArray.empty
  ·have e:lP y.1=ls y.1.kind:=by simp[lP,ku,hn]
   have k:=iR _ e.symm
   unfold bP at ku
   simp[-km.bj,ov,au,ku,hn,qk]
   exact k
  ·have e:lP y.1=ls (y.1.kind++⟨#[32]⟩++y.1.name):=by simp[lP,ku,hn,ls]
   have k:=iR _ e.symm
   unfold bP at ku
   simp[-km.bj,ov,au,ku,hn,qk]
   exact⟨by omega,by omega,k⟩
end
end
section
open Go.Ab
attribute [-simp] aN aD
def gM(k:ByteArray):Bool:=decide (k=aY)||decide (k=aK)||decide (k=c9)
def cw(d:Nat)(rows:List Row):Bool:=
 match rows with
 |[]=>true
 |r::rest=>decide (d<=32)&&lD r&&decide (r.rows<=rest.length)&&cw (d+1) (rest.take r.rows.toNat)&&!(gM r.kind&&decide (32<=d))&&cw d (rest.drop r.rows.toNat)
termination_by rows.length
decreasing_by all_goals (simp only[yA,List.length_drop,List.length_cons];omega)
def eS(ind:List UInt8)(rows:List Row):List UInt8:=
 match rows with
 |[]=>[]
 |r::rest=>ind++ky r++(if gM r.kind then[32,123,10]++eS (ind++[32,32]) (rest.take r.rows.toNat)++ind++[125,10] else[59,10])++eS ind (rest.drop r.rows.toNat)
termination_by rows.length
decreasing_by all_goals (simp only[yA,List.length_drop,List.length_cons];omega)
section
variable {α:Type}
def qG(l:List α)(i j:Nat):List α:=(l.drop i).take (j-i)
theorem Mv{l:List α}{i j:Nat}(hi:i<j)(hj:j<=l.length):qG l i j=l[i]::qG l (i+1) j:=by
 unfold qG
 rw[List.drop_eq_getElem_cons (by omega),show j-i=(j-(i+1))+1 by omega,List.take_succ_cons]
theorem QV{l:List α}{i j:Nat}(hi:i<=j)(hj:j<=l.length):(qG l i j).length=j-i:=by
 unfold qG;simp;omega
theorem Mt{l:List α}{i j k:Nat}(hk:i+k<=j):(qG l i j).take k=qG l i (i+k):=by
 unfold qG
 rw[List.take_take,show min k (j-i)=k by omega,show i+k-i=k by omega]
theorem Mu{l:List α}{i j k:Nat}(hk:i+k<=j):(qG l i j).drop k=qG l (i+k) j:=by
 unfold qG
 rw[List.drop_take,List.drop_drop,show j-i-k=j-(i+k) by omega]
theorem xu{l:List α}{i j:Nat}(h:j<=i):qG l i j=[]:=by
 unfold qG;rw[show j-i=0 by omega];rfl
theorem QW{l:List α}:qG l 0 l.length=l:=by unfold qG;simp
end
structure jq (h:AH) (x:AV) (l:List (Row×AV)):Prop where
 dy:cf au 6 46 h x l
 args:∀y∈l,cf Arg.enc 2 67 h y.2 y.1.args
theorem jq.bp{h h':AH}{x:AV}{l:List (Row×AV)}(a:jq h x l)(hf:Fr h h' fun _=>False):jq h' x l:=⟨a.dy.bp hf,fun y hy=>(a.args y hy).bp hf⟩
abbrev ea(l:List (Row×AV))(i j:Nat):List Row:=(qG l i j).map (·.1)
theorem xn{l:List (Row×AV)}{i j:Nat}(hi:i<j)(hj:j<=l.length):ea l i j=(l[i]'(by omega)).1::ea l (i+1) j:=by unfold ea;rw[Mv hi hj];rfl
theorem uk{l:List (Row×AV)}{i j k:Nat}(hk:i+k<=j):(ea l i j).take k=ea l i (i+k):=by unfold ea;rw[<-List.map_take,Mt hk]
theorem ul{l:List (Row×AV)}{i j k:Nat}(hk:i+k<=j):(ea l i j).drop k=ea l (i+k) j:=by unfold ea;rw[<-List.map_drop,Mu hk]
theorem BN{l:List (Row×AV)}{i j:Nat}(hi:i<=j)(hj:j<=l.length):(ea l i j).length=j-i:=by unfold ea;rw[zZ,QV hi hj]
section
variable {h:AH} {M W:Nat->Prop} {R:AE->AH->Prop} {QR QN:VK} {QE:Nat->VK} {QP:AV->AH->Prop} {vr:Nat} {x:AV} {y:Row×AV}
theorem OE{x9 x2 x3:AV}(hv:h.obj vr=some (aO (au y) 6 46))
  (hK:ie.n7 W QR QN QE QP x x2 x3 x9 (.ptr vr 0) (B (gM y.1.kind)) h):ie.aQ W QR QN QE QP x x2 x3 x9 (.ptr vr 0) h:=by
 unfold gM at hK
 by_cases k1:y.1.kind=aY
 ·simp[-ie.n7,k1]at hK
  simp[-ie.n7,hv,au,k1,aY]
  exact hK
 by_cases k2:y.1.kind=aK
 ·simp[-ie.n7,k2]at hK
  simp[-ie.n7,hv,au,k2,aK]
  exact hK
 by_cases k3:y.1.kind=c9
 ·simp[-ie.n7,k3]at hK
  simp[-ie.n7,hv,au,k3,c9]
  exact hK
 simp[-ie.n7,k1,k2,k3]at hK
 unfold aY at k1;unfold aK at k2;unfold c9 at k3
 simp[-ie.n7,hv,au,k1,k2,k3]
 exact hK
theorem pH{d:Nat}{r:Row}{rest:List Row}:cw d (r::rest)=(decide (d<=32)&&lD r&&decide (r.rows<=rest.length)&&cw (d+1) (rest.take r.rows.toNat)&&!(gM r.kind&&decide (32<=d))&&cw d (rest.drop r.rows.toNat)):=by
 rw[cw]
theorem uw{d:Nat}:cw d []=true:=by rw[cw]
theorem Fy{r:Row}(h:lD r=true):0<=r.rows:=by
 unfold lD at h;simp at h;exact h.2
theorem OD{h0:AH}{l:List (Row×AV)}{i j d:Nat}(hx:jq h x l)(hB:∀y∈l,lG y.1)(hi:i<j)(hj:j<=l.length)(hl:l.length<=1000000)(hd:d<=32)(hW:∀id,h.next<=id->W id)
  (rec:∀{h:AH}{M:Nat->Prop}{R:AE->AH->Prop}{i' j' d'},jq h x l->i<i'->i'<=j'->j'<=j->d'<=33->(∀h',Fr h h' (fun _=>False)->R (.ret (B (cw d' (ea l i' j')))) h')->ay Pg 25 [x,I i',I j',I d'] h M R)
  (hf:cw d (ea l i j)=false->∀h',Fr h h' (fun _=>False)->QR [B false] h')
  (ht:∀k:Nat,cw d (ea l (i+1+k) j)=cw d (ea l i j)->i+1+k<=j->∀h',Fr h h' (fun _=>False)->QN [x,I j,I d,I (i+1+k:Nat)] h') :
  ie.bC W QR QN QE QP x (I j) (I d) (I i) h:=by
 have aM:i<l.length:=by omega
 have g1:l[i]?=some l[i]:=zJ aM
 rw[xn hi hj,pH,BN (by omega) hj,zL hd,Bool.true_and]at hf ht
 have hb:=hB _ (List.getElem_mem aM)
 have yk:=hx.args _ (List.getElem_mem aM)
 generalize l[i]=y at *
 have hWn:∀{h'},Fr h h' (fun _=>False)->∀id,h'.next<=id->W id:=fun hf id hid=>hW id (zR hf.next hid)
 unfold ie.bC
 refine hZ hx.dy eF (mr yk) g1 rfl rfl hW fun vn h1 f1 qe ov=>?_
 unfold ie.bz
 refine dN ov rfl fun q=>?_
 refine⟨fun _=>False,fun _ h=>h.elim,U5 (yk.bp f1) (by have:=hb.name;omega) (fun g hg=>by have:=hb.args g hg;omega) (by have:=hb.len;omega) fun h2 f2=>?_⟩
 have qH:=f2.bQ ov
 have f12:=f1.bO f2
 have wi:IntKind.i64.wrap ((i:Int)+1)=((i+1:Nat):Int):=by rw[aL (by omega) (by omega)];simp
 have wd:IntKind.i64.wrap ((d:Int)+1)=((d+1:Nat):Int):=by rw[aL (by omega) (by omega)];simp
 have OX:IntKind.i64.wrap ((j:Int)-i)=((j-i:Nat):Int):=by rw[aL (by omega) (by omega)];omega
 have H7:IntKind.i64.wrap (((j-i:Nat):Int)-1)=((j-(i+1):Nat):Int):=by rw[aL (by omega) (by omega)];omega
 cases pk:lD y.1 with
 |false=>
  simp
  exact hf (by simp[pk]) h2 f12
 |true=>
  have oH:=Fy pk
  obtain⟨k,hk⟩:∃k:Nat,y.1.rows=k:=⟨y.1.rows.toNat,by omega⟩
  rw[pk,hk,zY,Bool.true_and]at hf ht
  by_cases wD:i+1+k<=j
  ·have hle:(k:Int)<=((j-(i+1):Nat):Int):=by omega
   have df:¬((j-(i+1):Nat):Int)<(k:Int):=by omega
   rw[zL hle,Bool.true_and,uk (by omega),ul (by omega)]at hf ht
   have wk:IntKind.i64.wrap (((i+1:Nat):Int)+k)=((i+1+k:Nat):Int):=by rw[aL (by omega) (by omega)];simp
   simp only[ie.bu,ie.bg,dR,zS,dl,zT,zE,zD,zC,zI,al,aF,qH,aB,zG,au,zB,zA,ah,hk,eX,dZ,aR,OX,H7,wi,wk,wd,zK df,cD,if_false,ie.aZ,gt_iff_lt]
   have w1:IntKind.i64.wrap ((i:Int)+k)=((i+k:Nat):Int):=by rw[aL (by omega) (by omega)];simp
   have w2:IntKind.i64.wrap (IntKind.i64.wrap ((i:Int)+k)+1)=((i+1+k:Nat):Int):=by rw[w1,aL (by omega) (by omega)];omega
   have OY:IntKind.i64.wrap (((i+k:Nat):Int)+1)=((i+1+k:Nat):Int):=by rw[aL (by omega) (by omega)];omega
   refine⟨fun _=>False,fun _ h=>h.elim,rec (hx.bp f12) (Nat.lt_succ_self i) (by omega) wD (by omega) fun h3 f3=>?_⟩
   have nj:=f3.bQ qH
   have f13:=f12.bO f3
   cases tn:cw (d+1) (ea l (i+1) (i+1+k)) with
   |false=>
    simp
    exact hf (by simp[tn]) h3 f13
   |true=>
    rw[tn,Bool.true_and]at hf ht
    simp[-ie.aQ]
    refine OE nj ?_
    cases lN:gM y.1.kind with
    |false=>
     rw[lN,Bool.false_and,zT,Bool.true_and]at hf ht
     simp[nj,au,hk,w2]
     exact ht k rfl wD h3 f13
    |true=>
     by_cases qi:32<=d
     ·rw[lN,zL qi]at hf
      have w3:(32:Int)<((d+1:Nat):Int):=by omega
      have w4:¬((d+1:Nat):Int)<=32:=by omega
      simp only[ie.n7,ie.n6,ie.n5,ie.n4,dl,aR,dZ,wd,gt_iff_lt,zL w3,cD,zV,zS,zD,zF,zC,zI,ao]
      exact hf (by simp) h3 f13
     ·rw[lN,zK qi,Bool.and_false,zT,Bool.true_and]at hf ht
      have w3:¬(32:Int)<((d+1:Nat):Int):=by omega
      simp only[ie.n7,ie.n6,ie.n5,ie.n3,ie.n2,dl,aR,dZ,wd,gt_iff_lt,zK w3,cD,zV,zS,zD,zF,zE,zH,zC,zI,ao,al,aF,nj,aB,zG,au,zB,zA,ah,hk,w1]
      rw[OY]
      exact ht k rfl wD h3 f13
  ·have hle:¬(k:Int)<=((j-(i+1):Nat):Int):=by omega
   have df:((j-(i+1):Nat):Int)<(k:Int):=by omega
   rw[zK hle,Bool.false_and]at hf
   simp only[ie.bu,ie.bg,dR,zS,dl,zT,zE,zD,zC,zI,al,aF,qH,aB,zG,au,zB,zA,ah,hk,eX,dZ,aR,OX,H7,wi,wd,zL df,cD,if_false,ie.aZ,gt_iff_lt]
   simp
   exact hf (by simp) h2 f12
theorem Gw(m:Nat):∀{h:AH}{M:Nat->Prop}{R:AE->AH->Prop}{l:List (Row×AV)}{i j d:Nat},j-i<m->jq h x l->(∀y∈l,lG y.1)->l.length<=1000000->i<=j->j<=l.length->d<=33 ->
  (∀h',Fr h h' (fun _=>False)->R (.ret (B (cw d (ea l i j)))) h')->ay Pg 25 [x,I i,I j,I d] h M R:=by
 induction m with
 |zero=>intro h M R l i j d hm;omega
 |succ m ih=>
  intro h M R l i j d hm hx hB hl Hk hj hd hR
  apply ie.aI
  by_cases tT:i<j/\32<d
  ·have e:cw d (ea l i j)=false:=by
    rw[xn tT.1 hj,pH,zK (by omega)];simp
   have h1:(i:Int)<j:=by omega
   have h2:(32:Int)<d:=by omega
   have:=hR h Fr.refl
   rw[e]at this
   simpa[h1,h2] using this
  ·have go:ie.bZ (fun id=>M id\/h.next<=id) (aH Pg [.tmp 8] R) (aH Pg [.tmp 8] R) (fun _ _ _=>False) (fun v h=>R (.bV v) h) x (I i) (I j) (I d) h:=by
    unfold ie.bZ ie.bD
    refine bX (ι:=Nat) (fun i' vs h'=>vs=[x,I j,I d,I i']/\i<=i'/\i'<=j/\Fr h h' (fun _=>False)/\cw d (ea l i' j)=cw d (ea l i j)) (fun i'=>j-i') i ?_ ?_
    ·exact⟨rfl,by omega,Hk,Fr.refl,rfl⟩
    rintro K i' vs h' ⟨rfl,PN,vj,hf,he⟩ hK
    simp only[ie.cn,zN,zO]
    by_cases aM:i'<j
    ·have dh:(i':Int)<j:=by omega
     simp[-ie.bC,dh]
     refine OD (h0:=h) (hx.bp hf) hB aM hj hl (by omega) (fun id hid=>.inr (zR hf.next hid)) ?_ ?_ ?_
     ·intro h2 M2 R2 i2 j2 d2 a1 a2 a3 a4 a5 a6
      exact ih (by omega) a1 hB hl a3 (by omega) a5 a6
     ·intro h1 h2 f2
      have:=hR h2 (hf.bO f2)
      rw[<-he,h1]at this
      simpa using this
     ·intro k lJ sL h2 f2
      exact hK (i'+1+k) _ _ (by omega) ⟨rfl,by omega,sL,hf.bO f2,by rw[lJ,he]⟩
    ·have df:¬(i':Int)<j:=by omega
     have:=hR h' hf
     rw[<-he,show ea l i' j=[] by unfold ea;rw[xu (by omega)];rfl,uw]at this
     simpa[df] using this
   by_cases h1:i<j
   ·have eN:(i:Int)<j:=by omega
    have h2:¬(32:Int)<d:=by omega
    simp[-ie.bZ,eN,h2]
    exact go
   ·have eN:¬(i:Int)<j:=by omega
    simp[-ie.bZ,eN]
    exact go
end
end
section
open Go.Ab
attribute [-simp] aN aD
theorem Cf{r:Row}(hf:lD r=true):0<=r.num/\r.num<=9007199254740991/\tD r:=by
 unfold lD j9 lq py at hf
 simp only[yC]at hf
 obtain⟨⟨h1,h2⟩,_⟩:=hf
 have hI:tD r:=by
  intro g hg
  have:=List.all_eq_true.1 h2 g hg
  unfold jo at this
  simp only[yC,decide_eq_true_eq]at this
  exact this.1.2
 obtain⟨⟨⟨⟨⟨_,_⟩,h3⟩,h4⟩,_⟩,_⟩:=h1
 cases hs:(eo r.kind).1.num with
 |true=>
  rw[hs]at h3
  simp at h3
  exact⟨h3.1,h3.2,hI⟩
 |false=>
  rw[hs]at h4
  simp at h4
  exact⟨by omega,by omega,hI⟩
theorem BX{d:Nat}{r:Row}{rest:List Row}(h:cw d (r::rest)=true):d<=32/\lD r=true/\0<=r.rows/\r.rows<=rest.length/\cw (d+1) (rest.take r.rows.toNat)=true/\(gM r.kind=true->d<32)/\cw d (rest.drop r.rows.toNat)=true:=by
 rw[pH]at h
 simp only[yC,decide_eq_true_eq,Bool.not_eq_true',Bool.and_eq_false_iff,decide_eq_false_iff_not]at h
 obtain⟨⟨⟨⟨⟨h1,h2⟩,h3⟩,h4⟩,h5⟩,h6⟩:=h
 refine⟨h1,h2,Fy h2,h3,h4,fun hb=>?_,h6⟩
 rcases h5 with h5 |h5
 ·rw[hb]at h5;cases h5
 ·omega
theorem ug{ind:List UInt8}{r:Row}{rest:List Row}:eS ind (r::rest)=ind++ky r++(if gM r.kind then[32,123,10]++eS (ind++[32,32]) (rest.take r.rows.toNat)++ind++[125,10] else[59,10])++eS ind (rest.drop r.rows.toNat):=by
 rw[eS]
theorem vL{ind:List UInt8}:eS ind []=[]:=by rw[eS]
section
variable {h:AH} {M W:Nat->Prop} {R:AE->AH->Prop} {QR QN:VK} {QE:Nat->VK} {QP:AV->AH->Prop} {vr:Nat} {x:AV} {y:Row×AV}
theorem OC{x0 x2 x3 x9 ap:AV}(hv:h.obj vr=some (aO (au y) 6 46))
  (hK:ko.n4 W QR QN QE QP x0 x2 x3 x9 ap (.ptr vr 0) (B (gM y.1.kind)) h):ko.n9 W QR QN QE QP x0 x2 x3 x9 ap (.ptr vr 0) h:=by
 unfold gM at hK
 by_cases k1:y.1.kind=aY
 ·simp[-ko.n4,k1]at hK
  simp[-ko.n4,hv,au,k1,aY]
  exact hK
 by_cases k2:y.1.kind=aK
 ·simp[-ko.n4,k2]at hK
  simp[-ko.n4,hv,au,k2,aK]
  exact hK
 by_cases k3:y.1.kind=c9
 ·simp[-ko.n4,k3]at hK
  simp[-ko.n4,hv,au,k3,c9]
  exact hK
 simp[-ko.n4,k1,k2,k3]at hK
 unfold aY at k1;unfold aK at k2;unfold c9 at k3
 simp[-ko.n4,hv,au,k1,k2,k3]
 exact hK
theorem OB{l:List (Row×AV)}{i j d:Nat}{ind acc T:List UInt8}(hx:jq h x l)(hB:∀y∈l,lG y.1)(hi:i<j)(hj:j<=l.length)(hl:l.length<=1000000)(hW:∀id,h.next<=id->W id)
  (cS:cw d (ea l i j)=true) (hT:acc++eS ind (ea l i j)=T) (hTl:T.length<=1000000000000)
  (rec:∀{h:AH}{M:Nat->Prop}{R:AE->AH->Prop}{i' j' d'}{M6:List UInt8},jq h x l->i<i'->i'<=j'->j'<=j->cw d' (ea l i' j')=true->(eS M6 (ea l i' j')).length<=1000000000000->(∀h',Fr h h' (fun _=>False)->R (.ret (S (eS M6 (ea l i' j')))) h')->ay Pg 26 [x,I i',I j',S M6] h M R)
  (ht:∀k:Nat,i+1+k<=j->∀my,cw d (ea l (i+1+k) j)=true->my++eS ind (ea l (i+1+k) j)=T->∀h',Fr h h' (fun _=>False)->QN [x,I j,S ind,S my,I (i+1+k:Nat)] h') :
  ko.aU W QR QN QE QP x (I j) (S ind) (S acc) (I i) h:=by
 have aM:i<l.length:=by omega
 have g1:l[i]?=some l[i]:=zJ aM
 rw[xn hi hj]at cS hT
 have hb:=hB _ (List.getElem_mem aM)
 have yk:=hx.args _ (List.getElem_mem aM)
 generalize l[i]=y at *
 obtain⟨hd,pk,oH,mR,fe,Dd,mL⟩:=BX cS
 rw[ug]at hT
 obtain⟨k,hk⟩:∃k:Nat,y.1.rows=k:=⟨y.1.rows.toNat,by omega⟩
 rw[hk,BN (by omega) hj]at mR
 have wD:i+1+k<=j:=by omega
 rw[hk,zY,uk (by omega)]at fe
 rw[hk,zY,ul (by omega)]at mL
 rw[hk,zY,uk (by omega),ul (by omega)]at hT
 have Fc:=hTl
 rw[<-hT]at Fc
 simp only[List.length_append]at Fc
 unfold ko.aU
 refine hZ hx.dy eF (mr yk) g1 rfl rfl hW fun vn h1 f1 qe ov=>?_
 unfold ko.aP
 rw[jN]
 refine⟨by omega,?_⟩
 refine dN ov rfl fun q=>?_
 have hn:=Cf pk
 refine⟨fun _=>False,fun _ h=>h.elim,RG hb hn.2.2 hn.1 hn.2.1 (yk.bp f1) fun h2 f2=>?_⟩
 have qH:=f2.bQ ov
 have f12:=f1.bO f2
 show aa Pg .add 9 false (S _) (S _) _
 rw[jN]
 refine⟨by simp only[List.length_append];omega,?_⟩
 refine OC qH ?_
 have wi:IntKind.i64.wrap ((i:Int)+1)=((i+1:Nat):Int):=by rw[aL (by omega) (by omega)];simp
 have wk:IntKind.i64.wrap (((i+1:Nat):Int)+k)=((i+1+k:Nat):Int):=by rw[aL (by omega) (by omega)];simp
 have w1:IntKind.i64.wrap ((i:Int)+k)=((i+k:Nat):Int):=by rw[aL (by omega) (by omega)];simp
 have OY:IntKind.i64.wrap (((i+k:Nat):Int)+1)=((i+1+k:Nat):Int):=by rw[aL (by omega) (by omega)];omega
 cases lN:gM y.1.kind with
 |true=>
  rw[lN,zX rfl]at hT Fc
  simp only[List.length_append]at Fc
  simp only[ko.n4,ao,zF,zC,zD,zI]
  show aa Pg .add 9 true (S _) (S [32,123,10]) _
  rw[jN]
  refine⟨by simp only[List.length_append];omega,?_⟩
  simp only[aR,wi,al,aF,qH,aB,zG,au,zB,zA,ah,hk,wk]
  show aa Pg .add 9 true (S _) (S [32,32]) _
  rw[jN]
  refine⟨by simp;omega,?_⟩
  refine⟨fun _=>False,fun _ h=>h.elim,rec (hx.bp f12) (Nat.lt_succ_self i) (by omega) wD fe (by omega) fun h3 f3=>?_⟩
  have nj:=f3.bQ qH
  have f13:=f12.bO f3
  show aa Pg .add 9 false (S _) (S _) _
  rw[jN]
  refine⟨by simp only[List.length_append];omega,?_⟩
  rw[jN]
  refine⟨by simp only[List.length_append];omega,?_⟩
  show aa Pg .add 9 true (S _) (S [125,10]) _
  rw[jN]
  refine⟨by simp only[List.length_append];omega,?_⟩
  simp only[ko.n3,ko.n2,aR,al,aF,nj,aB,zG,au,zB,zA,ah,hk,w1,OY]
  refine ht k wD _ mL ?_ h3 f13
  rw[<-hT];simp only[List.append_assoc]
 |false=>
  rw[lN,zW (by decide)]at hT Fc
  simp only[ko.n4,ao,zE,zC,zD,zH]
  show aa Pg .add 9 true (S _) (S [59,10]) _
  rw[jN]
  refine⟨by simp only[List.length_append];omega,?_⟩
  simp only[ko.n3,ko.n2,aR,al,aF,qH,aB,zG,au,zB,zA,ah,hk,w1,OY]
  refine ht k wD _ mL ?_ h2 f12
  rw[<-hT];simp only[List.append_assoc]
theorem Gx(m:Nat):∀{h:AH}{M:Nat->Prop}{R:AE->AH->Prop}{l:List (Row×AV)}{i j d:Nat}{ind:List UInt8},j-i<m->jq h x l->(∀y∈l,lG y.1)->l.length<=1000000->i<=j->j<=l.length->cw d (ea l i j)=true->(eS ind (ea l i j)).length<=1000000000000 ->
  (∀h',Fr h h' (fun _=>False)->R (.ret (S (eS ind (ea l i j)))) h')->ay Pg 26 [x,I i,I j,S ind] h M R:=by
 induction m with
 |zero=>intro h M R l i j d ind hm;omega
 |succ m ih=>
  intro h M R l i j d ind hm hx hB hl Hk hj cS hT hR
  apply ko.aI
  unfold ko.bg ko.aZ ko.bj ko.bn
  refine bX (ι:=Nat×List UInt8) (fun z vs h'=>vs=[x,I j,S ind,S z.2,I z.1]/\i<=z.1/\z.1<=j/\Fr h h' (fun _=>False)/\cw d (ea l z.1 j)=true/\z.2++eS ind (ea l z.1 j)=eS ind (ea l i j)) (fun z=>j-z.1) (i,[]) ?_ ?_
  ·exact⟨rfl,by simp,Hk,Fr.refl,cS,rfl⟩
  rintro K ⟨i',acc⟩ vs h' ⟨rfl,PN,vj,hf,E3,he⟩ hK
  simp only at PN vj E3 he hK
  simp only[ko.cn,zN,zO]
  by_cases aM:i'<j
  ·have dh:(i':Int)<j:=by omega
   simp only[ko.a_,ko.aQ,ba,zL dh,ao,zD,zF,zC,zI]
   refine OB (hx.bp hf) hB aM hj hl (fun id hid=>.inr (zR hf.next hid)) E3 he hT ?_ ?_
   ·intro h2 M2 R2 i2 j2 d2 abF a1 a2 a3 a4 a5 a6 a7
    exact ih (by omega) a1 hB hl a3 (by omega) a5 a6 a7
   ·intro k lJ my h1 h2 h3 f3
    exact hK (i'+1+k,my) _ _ (by simp only;omega) ⟨rfl,by simp only;omega,lJ,hf.bO f3,h1,h2⟩
  ·have df:¬(i':Int)<j:=by omega
   have:=hR h' hf
   rw[show ea l i' j=[] by unfold ea;rw[xu (by omega)];rfl,vL,List.append_nil]at he
   rw[<-he]at this
   simpa[df] using this
theorem vO{l:List (Row×AV)}:ea l 0 l.length=l.map (·.1):=by unfold ea;rw[QW]
def ig(rows:List Row):List AV:=
 if cw 0 rows then(if (eS [] rows).length<=65536 then[S (eS [] rows),I 0] else[S [],I 1]) else[S [],I 100]
theorem Il{l:List (Row×AV)}{R:AE->AH->Prop}(hx:jq h x l)(hB:∀y∈l,lG y.1)(hl:l.length<=1000000)(hT:cw 0 (l.map (·.1))=true->(eS [] (l.map (·.1))).length<=1000000000000)
  (hR:∀h',Fr h h' (fun _=>False)->R (.ret (.cM (ig (l.map (·.1))))) h'):ay Pg 13 [x] h M R:=by
 apply H2.aI
 simp only[H2.n9,H2.n8,hx.dy.len.1,hx.dy.len.2,zH]
 refine⟨fun _=>False,fun _ h=>h.elim,Gw (i:=0) (d:=0) (l.length+1) (by omega) hx hB hl (by omega) (zU _) (by omega) fun h1 f1=>?_⟩
 rw[vO]
 unfold ig at hR
 cases cS:cw 0 (l.map (·.1)) with
 |false=>
  rw[cS]at hR
  simpa using hR h1 f1
 |true=>
  rw[cS,zX rfl]at hR
  simp only[dR,H2.n7,ao,zS,zE,zC,zD,zH,H2.n5,hx.dy.len.1,hx.dy.len.2]
  refine⟨fun _=>False,fun _ h=>h.elim,Gx (i:=0) (d:=0) (ind:=[]) (l.length+1) (by omega) (hx.bp f1) hB hl (by omega) (zU _) (by rw[vO];exact cS) (by rw[vO];exact hT cS) fun h2 f2=>?_⟩
  rw[vO]
  have:=hR h2 (f1.bO f2)
  by_cases hs:(eS [] (l.map (·.1))).length<=65536
  ·rw[zX hs]at this
   have h1:¬(65536:Int)<((eS [] (l.map (·.1))).length:Int):=by omega
   simpa[h1,xR] using this
  ·rw[zW hs]at this
   have h1:(65536:Int)<((eS [] (l.map (·.1))).length:Int):=by omega
   simpa[h1,xR] using this
end
end
end Go.Proofs.YtjehibknlmehmaaGreatDoor
