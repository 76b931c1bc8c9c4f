/- Bodies of the document's answer; printed. No condition. -/
import Derived.Test.YtjehibknlmehmaaGl
set_option maxRecDepth 100000
namespace Go.Proofs.Ytjehibknlmehmaa
open Go.Ab
namespace F9
abbrev rs:List Nat:=[2,3,4]
def n1:N2:=fun W R _ _ _ x2 x6 h=>
lLd (some true) (some 3) x6 h fun t1 _=>
eStore (some 3) x2 t1 h W fun h3=>
R [x2,(.sc (.int .i64 0)),(.sc (.int .i64 0))] h3
def n2:N3:=fun _ R _ _ _ x2 x3 x4 h=>
R [x2,x3,x4] h
def n3:N4:=fun W R N E P x2 x5 x7 x8 h=>
∃ Hd:Nat->Nat,(∀ i∈[4,7],h.obj (Hd i)≠none)/\(
pBld (some ([.int .i64 0,.int .i64 0,.slice none 0 0],.inl [(0,1),(1,1),(2,1)])) [] fun t4=>
pNil x5 fun t5=>
pFld (some 8) t5 fun t6=>
lLd (some false) (some 1) t6 h fun t7 i8=>
(i8=Hd 4)/\(
pIxA (some (1,none)) t7 x7 fun t9=>
lLd (some false) (some 1) t9 h fun t10 i11=>
(i11=Hd 7)/\(
eStore (some 3) x2 t4 h (banL W Hd [4,7]) fun h12=>
n2 W R N E P x2 t10 x8 h12)))
def n4:N6:=fun W R N E P x2 x5 x6 x7 x8 x64 h=>
aIf x64 (
n3 W R N E P x2 x5 x7 x8 h) (
n1 W R N E P x2 x6 h)
def n5:N5:=fun W R N E P x2 x5 x6 x7 x8 h=>
pBin Try.prog .neq 3 true x8 (.sc (.int .i64 0)) fun t13=>
n4 W R N E P x2 x5 x6 x7 x8 t13 h
def n6:N3:=fun W R N E P x2 x5 x6 h=>
lLd (some true) (some 3) x6 h fun t14 _=>
aCall Try.prog W 19 [t14] h (fun t16 h17=>
pExt t16 0 fun t18=>
pExt t16 1 fun t19=>
n5 W R N E P x2 x5 x6 t18 t19 h17) P
def n7:N2:=fun W R N E P x2 x5 h=>
pNil x5 fun t20=>
pFld (some 1) t20 fun t21=>
lLd (some false) (some 1) t21 h fun t22 _=>
pNil x5 fun t24=>
pFld (some 2) t24 fun t25=>
lLd (some false) (some 1) t25 h fun t26 _=>
pNil x5 fun t28=>
pFld (some 7) t28 fun t29=>
lLd (some false) (some 1) t29 h fun t30 _=>
(
aCall Try.prog noW 18 [t22] h (fun t32 h33=>
(
aCall Try.prog noW 18 [t26] h33 (fun t34 h35=>
pBld (some ([.int .i64 0,.int .i64 0,.slice none 0 0],.inl [(0,1),(1,1),(2,1)])) [(0,t32),(1,t34),(2,t30)] fun t36=>
eAlloc (some [.int .i64 0,.int .i64 0,.slice none 0 0]) 3 27 h35 fun t37 h38=>
eStore (some 3) t37 t36 h38 W fun h39=>
n6 W R N E P x2 x5 t37 h39) P)/\(
eAlloc (some [.int .i64 0,.int .i64 0,.slice none 0 0]) 3 27 h33 fun t40 h41=>
aCall Try.prog noW 18 [t26] h41 (fun t42 h43=>
pBld (some ([.int .i64 0,.int .i64 0,.slice none 0 0],.inl [(0,1),(1,1),(2,1)])) [(0,t32),(1,t42),(2,t30)] fun t44=>
eStore (some 3) t40 t44 h43 W fun h45=>
n6 W R N E P x2 x5 t40 h45) P)/\True) P)/\(
eAlloc (some [.int .i64 0,.int .i64 0,.slice none 0 0]) 3 27 h fun t46 h47=>
aCall Try.prog noW 18 [t22] h47 (fun t48 h49=>
aCall Try.prog noW 18 [t26] h49 (fun t50 h51=>
pBld (some ([.int .i64 0,.int .i64 0,.slice none 0 0],.inl [(0,1),(1,1),(2,1)])) [(0,t48),(1,t50),(2,t30)] fun t52=>
eStore (some 3) t46 t52 h51 W fun h53=>
n6 W R N E P x2 x5 t46 h53) P) P)/\True
def n8:N3:=fun _ R _ _ _ x2 x3 x4 h=>
R [x2,x3,x4] h
def n9:N2:=fun W R N E P x2 x5 h=>
∃ Hd:Nat->Nat,(∀ i∈[4,8],h.obj (Hd i)≠none)/\(
pBld (some ([.int .i64 0,.int .i64 0,.slice none 0 0],.inl [(0,1),(1,1),(2,1)])) [] fun t54=>
pNil x5 fun t55=>
pFld (some 4) t55 fun t56=>
lLd (some false) (some 1) t56 h fun t57 i58=>
(i58=Hd 4)/\(
pNil x5 fun t59=>
pFld (some 5) t59 fun t60=>
lLd (some false) (some 1) t60 h fun t61 i62=>
(i62=Hd 8)/\(
eStore (some 3) x2 t54 h (banL W Hd [4,8]) fun h63=>
n8 W R N E P x2 t57 t61 h63)))
def n10:N3:=fun W R N E P x2 x5 x33 h=>
aIf x33 (
n9 W R N E P x2 x5 h) (
n7 W R N E P x2 x5 h)
def n11:N2:=fun W R N E P x2 x5 h=>
pNil x5 fun t64=>
pFld (some 6) t64 fun t65=>
lLd (some false) (some 1) t65 h fun t66 _=>
n10 W R N E P x2 x5 t66 h
def n12:N3:=fun W R N E P x0 x2 x5 h=>
(strArg x0=false)/\pLen x0 fun t68=>
aCall Try.prog W 17 [x5,(.sc (.int .i64 0)),t68,(.sc (.int .u64 0)),(.sc (.int .u64 0))] h (fun t69 h70=>
n11 W R N E P x2 x5 h70) P
def n13:N3:=fun _ R _ _ _ x2 x3 x4 h=>
R [x2,x3,x4] h
def n14:N2:=fun W R N E P x2 x5 h=>
∃ Hd:Nat->Nat,(∀ i∈[4,8],h.obj (Hd i)≠none)/\(
pBld (some ([.int .i64 0,.int .i64 0,.slice none 0 0],.inl [(0,1),(1,1),(2,1)])) [] fun t71=>
pNil x5 fun t72=>
pFld (some 4) t72 fun t73=>
lLd (some false) (some 1) t73 h fun t74 i75=>
(i75=Hd 4)/\(
pNil x5 fun t76=>
pFld (some 5) t76 fun t77=>
lLd (some false) (some 1) t77 h fun t78 i79=>
(i79=Hd 8)/\(
eStore (some 3) x2 t71 h (banL W Hd [4,8]) fun h80=>
n13 W R N E P x2 t74 t78 h80)))
def n15:N4:=fun W R N E P x0 x2 x5 x16 h=>
aIf x16 (
n14 W R N E P x2 x5 h) (
n12 W R N E P x0 x2 x5 h)
def n16:N3:=fun W R N E P x0 x2 x5 h=>
(strArg x0=false)/\pLen x0 fun t81=>
aCall Try.prog W 16 [x5,(.sc (.int .i64 0)),t81,(.sc (.int .i64 0)),(.sc (.int .i64 (-1)))] h (fun t82 h83=>
pUn .not t82 fun t84=>
n15 W R N E P x0 x2 x5 t84 h83) P
def n17:N2:=fun W R N E P x0 x2 h=>
pBld (some ([.slice none 0 0,.slice none 0 0,.slice none 0 0,.slice none 0 0,.int .i64 0,.int .i64 0,.bool false,.slice none 0 0,.slice none 0 0],.inl [(0,1),(1,1),(2,1),(3,1),(4,1),(5,1),(6,1),(7,1),(8,1)])) [(0,x0)] fun t85=>
eBox 9 54 t85 h fun t86 h87=>
n16 W R N E P x0 x2 t86 h87
def n18:N1:=fun W R N E P x0 h=>
eAlloc (some [.int .i64 0,.int .i64 0,.slice none 0 0]) 3 27 h fun t88 h89=>
n17 W R N E P x0 t88 h89
theorem callsN {x0:AV} {h:AH} {M:WK} {R:RK} (hp:n18 (fun id=>M id\/h.next<=id) (retV Try.prog [.cell 2 27,.tmp 3,.tmp 4] R) (retV Try.prog [.cell 2 27,.tmp 3,.tmp 4] R) (fun _ _ _=>False) (fun v h=>R (.pan v) h) x0 h):ACalls Try.prog 9 [x0] h M R:=
 fin (n:=75) (pl:=[(3,⟨[(none,[(0,false),(1,false),(2,false),(3,false),(4,true),(5,false),(6,false),(7,false),(8,true),(9,false),(10,false),(11,false)])],true,[],[]⟩),(6,⟨[(none,[(0,false),(1,false),(2,false),(3,false),(4,true),(5,false),(6,false),(7,false),(8,true),(9,false),(10,false),(11,false)])],true,[],[]⟩),(7,⟨[(none,[(0,false),(1,false),(2,false),(3,false),(5,false),(6,false),(7,false),(8,false),(10,false),(11,false),(12,false),(13,false)])],false,[.mk (fr 4 1) [.mk [(9,false),(14,false),(15,false),(16,false)] [],.mk [(15,false),(9,false),(14,false),(16,false)] []],.mk [(15,false),(4,false),(9,false),(14,false),(16,false)] []],[4,9]⟩),(10,⟨[(none,[(0,false),(1,false),(2,false),(3,false),(4,true),(5,false),(6,false),(7,true),(8,false),(9,false),(10,false),(11,false)])],true,[],[]⟩)]) (rs:=[.cell 2 27,.tmp 3,.tmp 4]) (L:=rs) (fun c=>(a1 n18 0 c)) Try.mixed Try.func9 (fun c=>
(sq (a1 n18 0 c)
(sq (a2 n17 0 2 c)
(sn
(sq (a3 n12 0 2 5 c)
(sn
(sn
(sq (a3 n6 2 5 6 c)
(sn
(sl (a2 n1 2 6 c))
(sq (a5 n5 2 5 6 7 8 c)
(cd (a6 n4 2 5 6 7 8 64 c) (sn
(sm (a3 n2 2 3 4 c))
(sm (a4 n3 2 5 7 8 c))) tr))))
(sm (a2 n7 2 5 c)))
(sq (a2 n11 2 5 c)
(cd (a3 n10 2 5 33 c) (sn
(sm (a3 n8 2 3 4 c))
(sm (a2 n9 2 5 c))) tr))))
(sq (a3 n16 0 2 5 c)
(cd (a4 n15 0 2 5 16 c) (sn
(sm (a3 n13 2 3 4 c))
(sm (a2 n14 2 5 c))) tr)))))) hp
attribute [simp] n1 n2 n3 n4 n5 n6 n7 n8 n9 n10 n11 n12 n13 n14 n15 n16 n17 n18
end F9
namespace F16
abbrev rs:List Nat:=[10]
def n1:N0:=fun _ R _ _ _ h=>
R [(.sc (.bool true))] h
def n2:N5:=fun _ _ N _ _ x0 x2 x3 x4 x14 h=>
N [x0,x2,x3,x4,x14] h
def n3:N7:=fun W R N E P x0 x2 x3 x4 x11 x14 x15 h=>
∃ Hd:Nat->Nat,(∀ i∈[3],h.obj (Hd i)≠none)/\(
pNil x0 fun t1=>
pFld (some 3) t1 fun t2=>
lLd (some false) (some 1) t2 h fun t3 i4=>
(i4=Hd 3)/\(
pBin Try.prog .add 3 true x11 (.sc (.int .i64 1)) fun t5=>
aCall Try.prog (banL W Hd [3]) 31 [x0,t5,x14] h (fun t6 h7=>
pIxA (some (7,none)) t3 x15 fun t8=>
pFld (some 5) t8 fun t9=>
eStore (some 1) t9 t6 h7 W fun h10=>
n2 W R N E P x0 x2 x3 x4 x14 h10) P))
def n4:N7:=fun W R N E P x0 x2 x3 x4 x11 x14 x15 h=>
pNil x0 fun t11=>
pFld (some 3) t11 fun t12=>
lLd (some false) (some 1) t12 h fun t13 _=>
pIxA (some (7,none)) t13 x15 fun t15=>
pFld (some 6) t15 fun t16=>
eStore (some 1) t16 (.sc (.bool false)) h W fun h17=>
n3 W R N E P x0 x2 x3 x4 x11 x14 x15 h17
def n5:N8:=fun W R N E P x0 x2 x3 x4 x11 x14 x15 x135 h=>
aIf x135 (
n4 W R N E P x0 x2 x3 x4 x11 x14 x15 h) (
n2 W R N E P x0 x2 x3 x4 x14 h)
def n6:N8:=fun W R N E P x0 x2 x3 x4 x11 x12 x14 x15 h=>
pFld (some 0) x12 fun t18=>
lLd (some false) (some 1) t18 h fun t19 _=>
pBin Try.prog .eql 9 true t19 (.sc (.string ⟨#[103,97,116,101]⟩)) fun t21=>
n5 W R N E P x0 x2 x3 x4 x11 x14 x15 t21 h
def n7:N0:=fun _ R _ _ _ h=>
R [(.sc (.bool false))] h
def n8:N9:=fun W R N E P x0 x2 x3 x4 x11 x12 x14 x15 x132 h=>
aIf x132 (
n7 W R N E P h) (
n6 W R N E P x0 x2 x3 x4 x11 x12 x14 x15 h)
def n9:N10:=fun W R N E P x0 x2 x3 x4 x11 x12 x14 x15 x122 x131 h=>
pPick x122 x131 (.sc (.bool false)) fun t22=>
n8 W R N E P x0 x2 x3 x4 x11 x12 x14 x15 t22 h
def n10:N9:=fun W R N E P x0 x2 x3 x4 x11 x12 x14 x15 x122 h=>
aIg true x122 (
pBin Try.prog .add 3 true x11 (.sc (.int .i64 1)) fun t23=>
pBin Try.prog .add 3 true x3 (.sc (.int .i64 1)) fun t24=>
aCall Try.prog W 16 [x0,t23,x14,t24,x15] h (fun t25 h26=>
pUn .not t25 fun t27=>
n9 W R N E P x0 x2 x3 x4 x11 x12 x14 x15 x122 t27 h26) P) (
n9 W R N E P x0 x2 x3 x4 x11 x12 x14 x15 x122 noA h)
def n11:N8:=fun W R N E P x0 x2 x3 x4 x11 x12 x14 x15 h=>
pFld (some 0) x12 fun t28=>
lLd (some false) (some 1) t28 h fun t29 _=>
aCall Try.prog W 28 [t29] h (fun t31 h32=>
n10 W R N E P x0 x2 x3 x4 x11 x12 x14 x15 t31 h32) P
def n12:N9:=fun W R N E P x0 x2 x3 x4 x11 x12 x14 x15 x112 h=>
aIf x112 (
pNil x0 fun t33=>
pFld (some 3) t33 fun t34=>
lLd (some false) (some 1) t34 h fun t35 _=>
(strArg t35=false)/\pLen t35 fun t37=>
pBin Try.prog .sub 3 true t37 (.sc (.int .i64 1)) fun t38=>
n11 W R N E P x0 x2 x3 x4 x11 x12 x14 t38 h) (
n11 W R N E P x0 x2 x3 x4 x11 x12 x14 x15 h)
def n13:N8:=fun W R N E P x0 x2 x3 x4 x11 x12 x14 x15 h=>
pFld (some 0) x12 fun t39=>
lLd (some false) (some 1) t39 h fun t40 _=>
pBin Try.prog .eql 9 true t40 (.sc (.string ⟨#[103,97,116,101]⟩)) fun t42=>
n12 W R N E P x0 x2 x3 x4 x11 x12 x14 x15 t42 h
def n14:N7:=fun W R N E P x0 x2 x3 x4 x11 x12 x14 h=>
n13 W R N E P x0 x2 x3 x4 x11 x12 x14 x4 h
def n15:N6:=fun W R N E P x0 x2 x3 x4 x11 x12 h=>
pBin Try.prog .add 3 true x11 (.sc (.int .i64 1)) fun t43=>
pFld (some 4) x12 fun t44=>
lLd (some false) (some 1) t44 h fun t45 _=>
pBin Try.prog .add 3 false t43 t45 fun t47=>
n14 W R N E P x0 x2 x3 x4 x11 x12 t47 h
def n16:N0:=fun _ R _ _ _ h=>
R [(.sc (.bool false))] h
def n17:N7:=fun W R N E P x0 x2 x3 x4 x11 x12 x103 h=>
aIf x103 (
n16 W R N E P h) (
n15 W R N E P x0 x2 x3 x4 x11 x12 h)
def n18:N6:=fun W R N E P x0 x2 x3 x4 x11 x12 h=>
aCall Try.prog W 30 [x0,x11,x4] h (fun t48 h49=>
pUn .not t48 fun t50=>
n17 W R N E P x0 x2 x3 x4 x11 x12 t50 h49) P
def n19:N2:=fun W R _ _ P x0 x11 h=>
aCall Try.prog W 29 [x0,x11,(.sc (.int .i64 100))] h (fun t51 h52=>
R [t51] h52) P
def n20:N7:=fun W R N E P x0 x2 x3 x4 x11 x12 x95 h=>
aIf x95 (
n19 W R N E P x0 x11 h) (
n18 W R N E P x0 x2 x3 x4 x11 x12 h)
def n21:N8:=fun W R N E P x0 x2 x3 x4 x11 x12 x82 x94 h=>
pPick x82 (.sc (.bool true)) x94 fun t53=>
n20 W R N E P x0 x2 x3 x4 x11 x12 t53 h
def n22:N9:=fun W R N E P x0 x2 x3 x4 x11 x12 x82 x90 x93 h=>
aIg false x82 (
pPick x90 x93 (.sc (.bool false)) fun t54=>
n21 W R N E P x0 x2 x3 x4 x11 x12 x82 t54 h) (
n21 W R N E P x0 x2 x3 x4 x11 x12 x82 noA h)
def n23:N8:=fun W R N E P x0 x2 x3 x4 x11 x12 x82 x90 h=>
aIg true x90 (
pFld (some 0) x12 fun t55=>
lLd (some false) (some 1) t55 h fun t56 _=>
pBin Try.prog .neq 9 true t56 (.sc (.string ⟨#[114,101,112,101,97,116]⟩)) fun t58=>
n22 W R N E P x0 x2 x3 x4 x11 x12 x82 x90 t58 h) (
n22 W R N E P x0 x2 x3 x4 x11 x12 x82 x90 noA h)
def n24:N9:=fun W R N E P x0 x2 x3 x4 x11 x12 x82 x85 x88 h=>
aIg false x82 (
pPick x85 x88 (.sc (.bool false)) fun t59=>
n23 W R N E P x0 x2 x3 x4 x11 x12 x82 t59 h) (
n23 W R N E P x0 x2 x3 x4 x11 x12 x82 noA h)
def n25:N8:=fun W R N E P x0 x2 x3 x4 x11 x12 x82 x85 h=>
aIg true x85 (
pFld (some 0) x12 fun t60=>
lLd (some false) (some 1) t60 h fun t61 _=>
pBin Try.prog .neq 9 true t61 (.sc (.string ⟨#[117,115,101]⟩)) fun t63=>
n24 W R N E P x0 x2 x3 x4 x11 x12 x82 x85 t63 h) (
n24 W R N E P x0 x2 x3 x4 x11 x12 x82 x85 noA h)
def n26:N7:=fun W R N E P x0 x2 x3 x4 x11 x12 x82 h=>
aIg false x82 (
pBin Try.prog .geq 3 true x4 (.sc (.int .i64 0)) fun t64=>
n25 W R N E P x0 x2 x3 x4 x11 x12 x82 t64 h) (
n25 W R N E P x0 x2 x3 x4 x11 x12 x82 noA h)
def n27:N8:=fun W R N E P x0 x2 x3 x4 x11 x12 x79 x80 h=>
pPick x79 x80 (.sc (.bool false)) fun t65=>
n26 W R N E P x0 x2 x3 x4 x11 x12 t65 h
def n28:N8:=fun W R N E P x0 x2 x3 x4 x11 x12 x13 x79 h=>
aIg true x79 (
n27 W R N E P x0 x2 x3 x4 x11 x12 x79 x13 h) (
n27 W R N E P x0 x2 x3 x4 x11 x12 x79 noA h)
def n29:N7:=fun W R N E P x0 x2 x3 x4 x11 x12 x13 h=>
pBin Try.prog .gtr 3 true x3 (.sc (.int .i64 0)) fun t66=>
n28 W R N E P x0 x2 x3 x4 x11 x12 x13 t66 h
def n30:N8:=fun W R N E P x0 x2 x3 x4 x11 x12 x72 x75 h=>
pPick x72 (.sc (.bool true)) x75 fun t67=>
n29 W R N E P x0 x2 x3 x4 x11 x12 t67 h
def n31:N7:=fun W R N E P x0 x2 x3 x4 x11 x12 x72 h=>
aIg false x72 (
pFld (some 0) x12 fun t68=>
lLd (some false) (some 1) t68 h fun t69 _=>
pBin Try.prog .eql 9 true t69 (.sc (.string ⟨#[103,97,116,101]⟩)) fun t71=>
n30 W R N E P x0 x2 x3 x4 x11 x12 x72 t71 h) (
n30 W R N E P x0 x2 x3 x4 x11 x12 x72 noA h)
def n32:N8:=fun W R N E P x0 x2 x3 x4 x11 x12 x67 x70 h=>
pPick x67 (.sc (.bool true)) x70 fun t72=>
n31 W R N E P x0 x2 x3 x4 x11 x12 t72 h
def n33:N7:=fun W R N E P x0 x2 x3 x4 x11 x12 x67 h=>
aIg false x67 (
pFld (some 0) x12 fun t73=>
lLd (some false) (some 1) t73 h fun t74 _=>
pBin Try.prog .eql 9 true t74 (.sc (.string ⟨#[98,105,116,115]⟩)) fun t76=>
n32 W R N E P x0 x2 x3 x4 x11 x12 x67 t76 h) (
n32 W R N E P x0 x2 x3 x4 x11 x12 x67 noA h)
def n34:N6:=fun W R N E P x0 x2 x3 x4 x11 x12 h=>
pFld (some 0) x12 fun t77=>
lLd (some false) (some 1) t77 h fun t78 _=>
pBin Try.prog .eql 9 true t78 (.sc (.string ⟨#[113,117,98,105,116,115]⟩)) fun t80=>
n33 W R N E P x0 x2 x3 x4 x11 x12 t80 h
def n35:N2:=fun W R _ _ P x0 x11 h=>
aCall Try.prog W 29 [x0,x11,(.sc (.int .i64 102))] h (fun t81 h82=>
R [t81] h82) P
def n36:N7:=fun W R N E P x0 x2 x3 x4 x11 x12 x60 h=>
aIf x60 (
n35 W R N E P x0 x11 h) (
n34 W R N E P x0 x2 x3 x4 x11 x12 h)
def n37:N6:=fun W R N E P x0 x2 x3 x4 x11 x12 h=>
pBin Try.prog .gtr 3 true x3 (.sc (.int .i64 32)) fun t83=>
n36 W R N E P x0 x2 x3 x4 x11 x12 t83 h
def n38:N2:=fun W R _ _ P x0 x11 h=>
aCall Try.prog W 29 [x0,x11,(.sc (.int .i64 100))] h (fun t84 h85=>
R [t84] h85) P
def n39:N7:=fun W R N E P x0 x2 x3 x4 x11 x12 x55 h=>
aIf x55 (
n38 W R N E P x0 x11 h) (
n37 W R N E P x0 x2 x3 x4 x11 x12 h)
def n40:N8:=fun W R N E P x0 x2 x3 x4 x11 x12 x47 x54 h=>
pPick x47 (.sc (.bool true)) x54 fun t86=>
n39 W R N E P x0 x2 x3 x4 x11 x12 t86 h
def n41:N7:=fun W R N E P x0 x2 x3 x4 x11 x12 x47 h=>
aIg false x47 (
pFld (some 4) x12 fun t87=>
lLd (some false) (some 1) t87 h fun t88 _=>
pBin Try.prog .sub 3 false x2 x11 fun t90=>
pBin Try.prog .sub 3 true t90 (.sc (.int .i64 1)) fun t91=>
pBin Try.prog .gtr 3 false t88 t91 fun t92=>
n40 W R N E P x0 x2 x3 x4 x11 x12 x47 t92 h) (
n40 W R N E P x0 x2 x3 x4 x11 x12 x47 noA h)
def n42:N8:=fun W R N E P x0 x2 x3 x4 x11 x12 x42 x45 h=>
pPick x42 (.sc (.bool true)) x45 fun t93=>
n41 W R N E P x0 x2 x3 x4 x11 x12 t93 h
def n43:N7:=fun W R N E P x0 x2 x3 x4 x11 x12 x42 h=>
aIg false x42 (
pFld (some 4) x12 fun t94=>
lLd (some false) (some 1) t94 h fun t95 _=>
pBin Try.prog .lss 3 true t95 (.sc (.int .i64 0)) fun t97=>
n42 W R N E P x0 x2 x3 x4 x11 x12 x42 t97 h) (
n42 W R N E P x0 x2 x3 x4 x11 x12 x42 noA h)
def n44:N8:=fun W R N E P x0 x2 x3 x4 x11 x12 x31 x40 h=>
pPick x31 (.sc (.bool true)) x40 fun t98=>
n43 W R N E P x0 x2 x3 x4 x11 x12 t98 h
def n45:N9:=fun W R N E P x0 x2 x3 x4 x11 x12 x31 x36 x39 h=>
aIg false x31 (
pPick x36 x39 (.sc (.bool false)) fun t99=>
n44 W R N E P x0 x2 x3 x4 x11 x12 x31 t99 h) (
n44 W R N E P x0 x2 x3 x4 x11 x12 x31 noA h)
def n46:N8:=fun W R N E P x0 x2 x3 x4 x11 x12 x31 x36 h=>
aIg true x36 (
pFld (some 4) x12 fun t100=>
lLd (some false) (some 1) t100 h fun t101 _=>
pBin Try.prog .neq 3 true t101 (.sc (.int .i64 0)) fun t103=>
n45 W R N E P x0 x2 x3 x4 x11 x12 x31 x36 t103 h) (
n45 W R N E P x0 x2 x3 x4 x11 x12 x31 x36 noA h)
def n47:N7:=fun W R N E P x0 x2 x3 x4 x11 x12 x31 h=>
aIg false x31 (
pFld (some 0) x12 fun t104=>
lLd (some false) (some 1) t104 h fun t105 _=>
aCall Try.prog W 28 [t105] h (fun t107 h108=>
pUn .not t107 fun t109=>
n46 W R N E P x0 x2 x3 x4 x11 x12 x31 t109 h108) P) (
n46 W R N E P x0 x2 x3 x4 x11 x12 x31 noA h)
def n48:N6:=fun W R N E P x0 x2 x3 x4 x11 x12 h=>
pFld (some 0) x12 fun t110=>
lLd (some false) (some 1) t110 h fun t111 _=>
aCall Try.prog W 27 [t111] h (fun t113 h114=>
pUn .not t113 fun t115=>
n47 W R N E P x0 x2 x3 x4 x11 x12 t115 h114) P
def n49:N5:=fun W R N E P x0 x2 x3 x4 x11 h=>
pNil x0 fun t116=>
pFld (some 0) t116 fun t117=>
lLd (some false) (some 1) t117 h fun t118 _=>
pIxA (some (6,none)) t118 x11 fun t120=>
lLd (some true) (some 6) t120 h fun t121 _=>
eAlloc (some [.string ⟨#[]⟩,.string ⟨#[]⟩,.slice none 0 0,.int .i64 0,.int .i64 0,.int .i64 0]) 6 42 h fun t123 h124=>
eStore (some 6) t123 t121 h124 W fun h125=>
n48 W R N E P x0 x2 x3 x4 x11 t123 h125
def n50:N6:=fun W R N E P x0 x2 x3 x4 x11 x19 h=>
aIf x19 (
n49 W R N E P x0 x2 x3 x4 x11 h) (
E 0 [] h)
def n51:N5:=fun W R N E P x0 x2 x3 x4 x11 h=>
pBin Try.prog .lss 3 false x11 x2 fun t126=>
n50 W R N E P x0 x2 x3 x4 x11 t126 h
def g1_:GK:=fun W R N E P N' vs h=>n51 W R N' (fun (i:Nat) (vs:List AV) (h:AH)=>if i=0 then n1 W R N E P h else E i vs h) P (vs.getD 0 noA) (vs.getD 1 noA) (vs.getD 2 noA) (vs.getD 3 noA) (vs.getD 4 noA) h
def n52:N5:=fun W R N E P x0 x2 x3 x4 x11 h=>
vLoop (g1_ W R N E P) [x0,x2,x3,x4,x11] h
def n53:N5:=fun W R N E P x0 x1 x2 x3 x4 h=>
n52 W R N E P x0 x2 x3 x4 x1 h
def n54:N5:=fun W R N E P x0 x1 x2 x3 x4 h=>
n53 W R N E P x0 x1 x2 x3 x4 h
theorem callsN {x0 x1 x2 x3 x4:AV} {h:AH} {M:WK} {R:RK} (hp:n54 (fun id=>M id\/h.next<=id) (retV Try.prog [.tmp 10] R) (retV Try.prog [.tmp 10] R) (fun _ _ _=>False) (fun v h=>R (.pan v) h) x0 x1 x2 x3 x4 h):ACalls Try.prog 16 [x0,x1,x2,x3,x4] h M R:=
 fin (n:=156) (pl:=[(4,⟨[(none,(fr 0 5)),(some (4,false),(fr 5 5)),(some (9,true),(fr 10 3)),(some (4,false),(fr 13 1)),(none,(fr 14 2)),(some (15,false),(fr 16 3)),(none,(fr 19 2)),(some (20,false),(fr 21 7)),(none,(fr 28 1))],false,[],[]⟩),(8,⟨[(none,(fr 0 4)),(some (3,false),(fr 4 3)),(none,(fr 7 2)),(some (8,false),(fr 9 3)),(none,(fr 12 2))],false,[],[]⟩),(9,⟨[(none,(fr 0 3)),(some (2,true),(fr 3 1)),(none,(fr 4 2)),(some (5,false),(fr 6 3)),(some (8,true),(fr 9 3)),(some (5,false),(fr 12 2)),(some (13,true),(fr 14 3)),(some (5,false),(fr 17 1)),(none,(fr 18 1))],false,[],[]⟩),(17,⟨[(none,(fr 0 4)),(some (3,true),(fr 4 9)),(none,(fr 13 1))],false,[],[]⟩),(21,⟨[(none,[(0,false),(1,false),(2,false),(3,true),(4,false),(5,false),(6,false),(7,false),(8,false),(9,false),(10,false),(11,false),(12,false)])],true,[],[]⟩)]) (rs:=[.tmp 10]) (L:=rs) (fun c=>(a5 n54 0 1 2 3 4 c)) Try.mixed Try.func16 (fun c=>
(sq (a5 n54 0 1 2 3 4 c)
(sn
(sl (a0 n1 c))
(sq (a5 n53 0 1 2 3 4 c)
(bk 0 (lp [0,2,3,4,11] rs [(0,[])] (a5 n52 0 2 3 4 11 c) g1_ (fun i vs h=>if i=0 then n1 c.W c.R c.N c.E c.P h else c.E i vs h) (.b (.t .o)) fun c=>
(sn
(bk 1 (sq (a5 n49 0 2 3 4 11 c)
(sn
(sn
(sn
(sn
(sn
(sq (a6 n15 0 2 3 4 11 12 c)
(sq (a7 n14 0 2 3 4 11 12 14 c)
(sn
(sn
(sn
(sm (a5 n2 0 2 3 4 14 c))
(sq (a8 n6 0 2 3 4 11 12 14 15 c)
(cd (a8 n5 0 2 3 4 11 14 15 135 c) (sq (a7 n4 0 2 3 4 11 14 15 c)
(sm (a7 n3 0 2 3 4 11 14 15 c))) tr)))
(sn
(cd (a9 n8 0 2 3 4 11 12 14 15 132 c) (sl (a0 n7 c)) tr)
(gr (gn (a8 n11 0 2 3 4 11 12 14 15 c) (gx (a9 n10 0 2 3 4 11 12 14 15 122 c) (gl (a10 n9 0 2 3 4 11 12 14 15 122 131 c)))))))
(sq (a8 n13 0 2 3 4 11 12 14 15 c)
(cd (a9 n12 0 2 3 4 11 12 14 15 112 c) tr tr)))))
(sq (a6 n18 0 2 3 4 11 12 c)
(cd (a7 n17 0 2 3 4 11 12 103 c) (sl (a0 n16 c)) tr)))
(sn
(cd (a7 n20 0 2 3 4 11 12 95 c) (sl (a2 n19 0 11 c)) tr)
(gr (gn (a7 n29 0 2 3 4 11 12 13 c) (gx (a8 n28 0 2 3 4 11 12 13 79 c) (gn (a8 n27 0 2 3 4 11 12 79 80 c) (gx (a7 n26 0 2 3 4 11 12 82 c) (gx (a8 n25 0 2 3 4 11 12 82 85 c) (gx (a9 n24 0 2 3 4 11 12 82 85 88 c) (gx (a8 n23 0 2 3 4 11 12 82 90 c) (gx (a9 n22 0 2 3 4 11 12 82 90 93 c) (gl (a8 n21 0 2 3 4 11 12 82 94 c)))))))))))))
(gr (gn (a6 n34 0 2 3 4 11 12 c) (gx (a7 n33 0 2 3 4 11 12 67 c) (gn (a8 n32 0 2 3 4 11 12 67 70 c) (gx (a7 n31 0 2 3 4 11 12 72 c) (gl (a8 n30 0 2 3 4 11 12 72 75 c))))))))
(sq (a6 n37 0 2 3 4 11 12 c)
(cd (a7 n36 0 2 3 4 11 12 60 c) (sl (a2 n35 0 11 c)) tr)))
(sn
(cd (a7 n39 0 2 3 4 11 12 55 c) (sl (a2 n38 0 11 c)) tr)
(gr (gn (a6 n48 0 2 3 4 11 12 c) (gx (a7 n47 0 2 3 4 11 12 31 c) (gx (a8 n46 0 2 3 4 11 12 31 36 c) (gx (a9 n45 0 2 3 4 11 12 31 36 39 c) (gn (a8 n44 0 2 3 4 11 12 31 40 c) (gx (a7 n43 0 2 3 4 11 12 42 c) (gn (a8 n42 0 2 3 4 11 12 42 45 c) (gx (a7 n41 0 2 3 4 11 12 47 c) (gl (a8 n40 0 2 3 4 11 12 47 54 c)))))))))))))))
(sq (a5 n51 0 2 3 4 11 c)
(cd (a6 n50 0 2 3 4 11 19 c) tr tr))))))))) hp
attribute [simp] n1 n2 n3 n4 n5 n6 n7 n8 n9 n10 n11 n12 n13 n14 n15 n16 n17 n18 n19 n20 n21 n22 n23 n24 n25 n26 n27 n28 n29 n30 n31 n32 n33 n34 n35 n36 n37 n38 n39 n40 n41 n42 n43 n44 n45 n46 n47 n48 n49 n50 n51 n53 n54
end F16
namespace F18
abbrev rs:List Nat:=[2]
def n1:N1:=fun _ R _ _ _ x3 h=>
R [x3] h
def n2:N3:=fun _ _ N _ _ x0 x3 x4 h=>
pBin Try.prog .add 3 true x4 (.sc (.int .i64 1)) fun t1=>
N [x0,x3,t1] h
def n3:N3:=fun W R N E P x0 x3 x4 h=>
pIxA (some (3,none)) x0 x4 fun t2=>
pFld (some 2) t2 fun t3=>
lLd (some false) (some 1) t3 h fun t4 _=>
pBin Try.prog .add 3 false x3 t4 fun t6=>
n2 W R N E P x0 t6 x4 h
def n4:N4:=fun W R N E P x0 x3 x4 x8 h=>
aIf x8 (
n3 W R N E P x0 x3 x4 h) (
E 0 [x3] h)
def n5:N3:=fun W R N E P x0 x3 x4 h=>
(strArg x0=false)/\pLen x0 fun t7=>
pBin Try.prog .lss 3 false x4 t7 fun t8=>
n4 W R N E P x0 x3 x4 t8 h
def g1_:GK:=fun W R N E P N' vs h=>n5 W R N' (fun (i:Nat) (vs:List AV) (h:AH)=>if i=0 then n1 W R N E P (vs.getD 0 noA) h else E i vs h) P (vs.getD 0 noA) (vs.getD 1 noA) (vs.getD 2 noA) h
def n6:N3:=fun W R N E P x0 x3 x4 h=>
vLoop (g1_ W R N E P) [x0,x3,x4] h
def n7:N2:=fun W R N E P x0 x3 h=>
n6 W R N E P x0 x3 (.sc (.int .i64 0)) h
def n8:N1:=fun W R N E P x0 h=>
n7 W R N E P x0 (.sc (.int .i64 0)) h
def n9:N1:=fun W R N E P x0 h=>
n8 W R N E P x0 h
theorem callsN {x0:AV} {h:AH} {M:WK} {R:RK} (hp:n9 (fun id=>M id\/h.next<=id) (retV Try.prog [.tmp 2] R) (retV Try.prog [.tmp 2] R) (fun _ _ _=>False) (fun v h=>R (.pan v) h) x0 h):ACalls Try.prog 18 [x0] h M R:=
 fin (n:=19) (pl:=[]) (rs:=[.tmp 2]) (L:=rs) (fun c=>(a1 n9 0 c)) Try.mixed Try.func18 (fun c=>
(sq (a1 n9 0 c)
(sq (a1 n8 0 c)
(sn
(sl (a1 n1 3 c))
(sq (a2 n7 0 3 c)
(bk 0 (lp [0,3,4] rs [(0,[3])] (a3 n6 0 3 4 c) g1_ (fun i vs h=>if i=0 then n1 c.W c.R c.N c.E c.P (vs.getD 0 noA) h else c.E i vs h) (.b (.t .o)) fun c=>
(sn
(sn
(sm (a3 n2 0 3 4 c))
(bk 1 (sm (a3 n3 0 3 4 c))))
(sq (a3 n5 0 3 4 c)
(cd (a4 n4 0 3 4 8 c) tr tr)))))))))) hp
attribute [simp] n1 n2 n3 n4 n5 n7 n8 n9
end F18
namespace F27
abbrev rs:List Nat:=[2]
def n1:N0:=fun _ R _ _ _ h=>
R [(.sc (.bool false))] h
def n2:N0:=fun _ R _ _ _ h=>
R [(.sc (.bool true))] h
def n3:N1:=fun W R N E P x4 h=>
aIf x4 (
n2 W R N E P h) (
n1 W R N E P h)
def n4:N2:=fun W R N E P x3 x4 h=>
aIf x4 (
n3 W R N E P x4 h) (
pBin Try.prog .eql 9 true x3 (.sc (.string ⟨#[114,101,115,101,116]⟩)) fun t1=>
n3 W R N E P t1 h)
def n5:N1:=fun W R N E P x3 h=>
pBin Try.prog .eql 9 true x3 (.sc (.string ⟨#[109,101,97,115,117,114,101]⟩)) fun t2=>
n4 W R N E P x3 t2 h
def n6:N2:=fun W R N E P x3 x4 h=>
aIf x4 (
n3 W R N E P x4 h) (
n5 W R N E P x3 h)
def n7:N1:=fun W R N E P x3 h=>
pBin Try.prog .eql 9 true x3 (.sc (.string ⟨#[117,115,101]⟩)) fun t3=>
n6 W R N E P x3 t3 h
def n8:N2:=fun W R N E P x3 x4 h=>
aIf x4 (
n3 W R N E P x4 h) (
n7 W R N E P x3 h)
def n9:N1:=fun W R N E P x3 h=>
pBin Try.prog .eql 9 true x3 (.sc (.string ⟨#[105,102]⟩)) fun t4=>
n8 W R N E P x3 t4 h
def n10:N2:=fun W R N E P x3 x4 h=>
aIf x4 (
n3 W R N E P x4 h) (
n9 W R N E P x3 h)
def n11:N1:=fun W R N E P x3 h=>
pBin Try.prog .eql 9 true x3 (.sc (.string ⟨#[114,101,112,101,97,116]⟩)) fun t5=>
n10 W R N E P x3 t5 h
def n12:N2:=fun W R N E P x3 x4 h=>
aIf x4 (
n3 W R N E P x4 h) (
n11 W R N E P x3 h)
def n13:N1:=fun W R N E P x3 h=>
pBin Try.prog .eql 9 true x3 (.sc (.string ⟨#[103,97,116,101]⟩)) fun t6=>
n12 W R N E P x3 t6 h
def n14:N2:=fun W R N E P x3 x4 h=>
aIf x4 (
n3 W R N E P x4 h) (
n13 W R N E P x3 h)
def n15:N1:=fun W R N E P x3 h=>
pBin Try.prog .eql 9 true x3 (.sc (.string ⟨#[98,105,116,115]⟩)) fun t7=>
n14 W R N E P x3 t7 h
def n16:N2:=fun W R N E P x3 x4 h=>
aIf x4 (
n3 W R N E P x4 h) (
n15 W R N E P x3 h)
def n17:N1:=fun W R N E P x3 h=>
pBin Try.prog .eql 9 true x3 (.sc (.string ⟨#[113,117,98,105,116,115]⟩)) fun t8=>
n16 W R N E P x3 t8 h
def n18:N1:=fun W R N E P x0 h=>
n17 W R N E P x0 h
def n19:N1:=fun W R N E P x0 h=>
n18 W R N E P x0 h
theorem callsN {x0:AV} {h:AH} {M:WK} {R:RK} (hp:n19 (fun id=>M id\/h.next<=id) (retV Try.prog [.tmp 2] R) (retV Try.prog [.tmp 2] R) (fun _ _ _=>False) (fun v h=>R (.pan v) h) x0 h):ACalls Try.prog 27 [x0] h M R:=
 fin (n:=13) (pl:=[]) (rs:=[.tmp 2]) (L:=rs) (fun c=>(a1 n19 0 c)) Try.mixed Try.func27 (fun c=>
(sq (a1 n19 0 c)
(sn
(sl (a0 n1 c))
(sq (a1 n18 0 c)
(bk 0 (sn
(cd (a1 n3 4 c) (sl (a0 n2 c)) tr)
(sq (a1 n17 3 c)
(cd (a2 n16 3 4 c) tr (sq (a1 n15 3 c)
(cd (a2 n14 3 4 c) tr (sq (a1 n13 3 c)
(cd (a2 n12 3 4 c) tr (sq (a1 n11 3 c)
(cd (a2 n10 3 4 c) tr (sq (a1 n9 3 c)
(cd (a2 n8 3 4 c) tr (sq (a1 n7 3 c)
(cd (a2 n6 3 4 c) tr (sq (a1 n5 3 c)
(cd (a2 n4 3 4 c) tr tr)))))))))))))))))))) hp
attribute [simp] n1 n2 n3 n4 n5 n6 n7 n8 n9 n10 n11 n12 n13 n14 n15 n16 n17 n18 n19
end F27
namespace F28
abbrev rs:List Nat:=[2]
def n1:N1:=fun _ R _ _ _ x2 h=>
R [x2] h
def n2:N2:=fun W R N E P x9 x11 h=>
pPick x9 (.sc (.bool true)) x11 fun t1=>
n1 W R N E P t1 h
def n3:N2:=fun W R N E P x0 x9 h=>
aIg false x9 (
pBin Try.prog .eql 9 true x0 (.sc (.string ⟨#[105,102]⟩)) fun t2=>
n2 W R N E P x9 t2 h) (
n2 W R N E P x9 noA h)
def n4:N3:=fun W R N E P x0 x5 x7 h=>
pPick x5 (.sc (.bool true)) x7 fun t3=>
n3 W R N E P x0 t3 h
def n5:N2:=fun W R N E P x0 x5 h=>
aIg false x5 (
pBin Try.prog .eql 9 true x0 (.sc (.string ⟨#[114,101,112,101,97,116]⟩)) fun t4=>
n4 W R N E P x0 x5 t4 h) (
n4 W R N E P x0 x5 noA h)
def n6:N1:=fun W R N E P x0 h=>
pBin Try.prog .eql 9 true x0 (.sc (.string ⟨#[103,97,116,101]⟩)) fun t5=>
n5 W R N E P x0 t5 h
def n7:N1:=fun W R N E P x0 h=>
n6 W R N E P x0 h
theorem callsN {x0:AV} {h:AH} {M:WK} {R:RK} (hp:n7 (fun id=>M id\/h.next<=id) (retV Try.prog [.tmp 2] R) (retV Try.prog [.tmp 2] R) (fun _ _ _=>False) (fun v h=>R (.pan v) h) x0 h):ACalls Try.prog 28 [x0] h M R:=
 fin (n:=13) (pl:=[(1,⟨[(none,(fr 0 3)),(some (2,false),(fr 3 2)),(none,(fr 5 2)),(some (6,false),(fr 7 2)),(none,(fr 9 2))],false,[],[]⟩)]) (rs:=[.tmp 2]) (L:=rs) (fun c=>(a1 n7 0 c)) Try.mixed Try.func28 (fun c=>
(sq (a1 n7 0 c)
(sn
(sm (a1 n1 2 c))
(gr (gn (a1 n6 0 c) (gx (a2 n5 0 5 c) (gn (a3 n4 0 5 7 c) (gx (a2 n3 0 9 c) (gl (a2 n2 9 11 c)))))))))) hp
attribute [simp] n1 n2 n3 n4 n5 n6 n7
end F28
namespace F29
abbrev rs:List Nat:=[6]
def n1:N0:=fun _ R _ _ _ h=>
R [(.sc (.bool false))] h
def n2:N3:=fun W R N E P x0 x1 x2 h=>
pNil x0 fun t1=>
pFld (some 0) t1 fun t2=>
lLd (some false) (some 1) t2 h fun t3 _=>
pIxA (some (6,none)) t3 x1 fun t5=>
pFld (some 5) t5 fun t6=>
lLd (some false) (some 1) t6 h fun t7 _=>
pNil x0 fun t9=>
pFld (some 4) t9 fun t10=>
eStore (some 1) t10 t7 h W fun h11=>
pNil x0 fun t12=>
pFld (some 5) t12 fun t13=>
eStore (some 1) t13 x2 h11 W fun h14=>
n1 W R N E P h14
def n3:N3:=fun W R N E P x0 x1 x2 h=>
n2 W R N E P x0 x1 x2 h
theorem callsN {x0 x1 x2:AV} {h:AH} {M:WK} {R:RK} (hp:n3 (fun id=>M id\/h.next<=id) (retV Try.prog [.tmp 6] R) (retV Try.prog [.tmp 6] R) (fun _ _ _=>False) (fun v h=>R (.pan v) h) x0 x1 x2 h):ACalls Try.prog 29 [x0,x1,x2] h M R:=
 fin (n:=22) (pl:=[]) (rs:=[.tmp 6]) (L:=rs) (fun c=>(a3 n3 0 1 2 c)) Try.mixed Try.func29 (fun c=>
(sq (a3 n3 0 1 2 c)
(sq (a3 n2 0 1 2 c)
(sl (a0 n1 c))))) hp
attribute [simp] n1 n2 n3
end F29
namespace F30
abbrev rs:List Nat:=[6]
def n1:N0:=fun _ R _ _ _ h=>
R [(.sc (.bool true))] h
def n2:N2:=fun W R _ _ P x0 x1 h=>
aCall Try.prog W 50 [x0,x1] h (fun t1 h2=>
R [t1] h2) P
def n3:N2:=fun W R _ _ P x0 x1 h=>
aCall Try.prog W 29 [x0,x1,(.sc (.int .i64 112))] h (fun t3 h4=>
R [t3] h4) P
def n4:N3:=fun W R N E P x0 x1 x29 h=>
aIf x29 (
n3 W R N E P x0 x1 h) (
n1 W R N E P h)
def n5:N3:=fun W R N E P x0 x1 x7 h=>
pFld (some 3) x7 fun t5=>
lLd (some false) (some 1) t5 h fun t6 _=>
pBin Try.prog .lss 3 true t6 (.sc (.int .i64 0)) fun t8=>
n4 W R N E P x0 x1 t8 h
def n6:N2:=fun W R _ _ P x0 x1 h=>
aCall Try.prog W 29 [x0,x1,(.sc (.int .i64 112))] h (fun t9 h10=>
R [t9] h10) P
def n7:N3:=fun W R N E P x0 x1 x74 h=>
aIf x74 (
n6 W R N E P x0 x1 h) (
n1 W R N E P h)
def n8:N4:=fun W R N E P x0 x1 x50 x73 h=>
pPick x50 (.sc (.bool true)) x73 fun t11=>
n7 W R N E P x0 x1 t11 h
def n9:N5:=fun W R N E P x0 x1 x50 x60 x72 h=>
aIg false x50 (
pPick x60 x72 (.sc (.bool false)) fun t12=>
n8 W R N E P x0 x1 x50 t12 h) (
n8 W R N E P x0 x1 x50 noA h)
def n10:N6:=fun W R N E P x0 x1 x7 x8 x50 x60 h=>
aIg true x60 (
pFld (some 3) x7 fun t13=>
lLd (some false) (some 1) t13 h fun t14 _=>
pNil x0 fun t16=>
pFld (some 2) t16 fun t17=>
lLd (some false) (some 1) t17 h fun t18 _=>
pIxA (some (3,none)) t18 x8 fun t20=>
pFld (some 2) t20 fun t21=>
lLd (some false) (some 1) t21 h fun t22 _=>
pBin Try.prog .shl 3 true (.sc (.int .i64 1)) t22 fun t24=>
pBin Try.prog .geq 3 false t14 t24 fun t25=>
n9 W R N E P x0 x1 x50 x60 t25 h) (
n9 W R N E P x0 x1 x50 x60 noA h)
def n11:N5:=fun W R N E P x0 x1 x7 x8 x50 h=>
aIg false x50 (
pNil x0 fun t26=>
pFld (some 2) t26 fun t27=>
lLd (some false) (some 1) t27 h fun t28 _=>
pIxA (some (3,none)) t28 x8 fun t30=>
pFld (some 2) t30 fun t31=>
lLd (some false) (some 1) t31 h fun t32 _=>
pBin Try.prog .lss 3 true t32 (.sc (.int .i64 63)) fun t34=>
n10 W R N E P x0 x1 x7 x8 x50 t34 h) (
n10 W R N E P x0 x1 x7 x8 x50 noA h)
def n12:N4:=fun W R N E P x0 x1 x7 x8 h=>
pFld (some 3) x7 fun t35=>
lLd (some false) (some 1) t35 h fun t36 _=>
pBin Try.prog .lss 3 true t36 (.sc (.int .i64 0)) fun t38=>
n11 W R N E P x0 x1 x7 x8 t38 h
def n13:N2:=fun W R _ _ P x0 x1 h=>
aCall Try.prog W 29 [x0,x1,(.sc (.int .i64 110))] h (fun t39 h40=>
R [t39] h40) P
def n14:N5:=fun W R N E P x0 x1 x7 x8 x43 h=>
aIf x43 (
n13 W R N E P x0 x1 h) (
n12 W R N E P x0 x1 x7 x8 h)
def n15:N4:=fun W R N E P x0 x1 x7 x8 h=>
pBin Try.prog .lss 3 true x8 (.sc (.int .i64 0)) fun t41=>
n14 W R N E P x0 x1 x7 x8 t41 h
def n16:N3:=fun W R N E P x0 x1 x7 h=>
pNil x0 fun t42=>
pFld (some 2) t42 fun t43=>
lLd (some false) (some 1) t43 h fun t44 _=>
pFld (some 1) x7 fun t46=>
lLd (some false) (some 1) t46 h fun t47 _=>
aCall Try.prog noW 35 [t44,t47] h (fun t49 h50=>
n15 W R N E P x0 x1 x7 t49 h50) P
def n17:N3:=fun W R _ _ P x0 x1 x2 h=>
aCall Try.prog W 51 [x0,x1,x2] h (fun t51 h52=>
R [t51] h52) P
def n18:N1:=fun _ R _ _ _ x6 h=>
R [x6] h
def n19:N2:=fun W R N E P x104 x115 h=>
pPick x104 x115 (.sc (.bool false)) fun t53=>
n18 W R N E P t53 h
def n20:N4:=fun W R N E P x0 x1 x7 x104 h=>
aIg true x104 (
pFld (some 2) x7 fun t54=>
lLd (some false) (some 1) t54 h fun t55 _=>
pIxA (some (2,none)) t55 (.sc (.int .i64 1)) fun t57=>
lLd (some true) (some 2) t57 h fun t58 _=>
pNil x0 fun t60=>
pFld (some 2) t60 fun t61=>
lLd (some false) (some 1) t61 h fun t62 _=>
aCall Try.prog W 52 [x0,x1,t58,t62] h (fun t64 h65=>
n19 W R N E P x104 t64 h65) P) (
n19 W R N E P x104 noA h)
def n21:N3:=fun W R N E P x0 x1 x7 h=>
pFld (some 2) x7 fun t66=>
lLd (some false) (some 1) t66 h fun t67 _=>
pIxA (some (2,none)) t67 (.sc (.int .i64 0)) fun t69=>
lLd (some true) (some 2) t69 h fun t70 _=>
pNil x0 fun t72=>
pFld (some 1) t72 fun t73=>
lLd (some false) (some 1) t73 h fun t74 _=>
aCall Try.prog W 52 [x0,x1,t70,t74] h (fun t76 h77=>
n20 W R N E P x0 x1 x7 t76 h77) P
def n22:N2:=fun W R _ _ P x0 x1 h=>
aCall Try.prog W 29 [x0,x1,(.sc (.int .i64 111))] h (fun t78 h79=>
R [t78] h79) P
def n23:N4:=fun W R N E P x0 x1 x7 x89 h=>
aIf x89 (
n22 W R N E P x0 x1 h) (
n21 W R N E P x0 x1 x7 h)
def n24:N3:=fun W R N E P x0 x1 x7 h=>
pFld (some 2) x7 fun t80=>
lLd (some false) (some 1) t80 h fun t81 _=>
(strArg t81=false)/\pLen t81 fun t83=>
pBin Try.prog .neq 3 true t83 (.sc (.int .i64 2)) fun t84=>
n23 W R N E P x0 x1 x7 t84 h
def n25:N3:=fun W R _ _ P x0 x1 x7 h=>
pFld (some 2) x7 fun t85=>
lLd (some false) (some 1) t85 h fun t86 _=>
pIxA (some (2,none)) t86 (.sc (.int .i64 0)) fun t88=>
lLd (some true) (some 2) t88 h fun t89 _=>
pNil x0 fun t91=>
pFld (some 1) t91 fun t92=>
lLd (some false) (some 1) t92 h fun t93 _=>
aCall Try.prog W 52 [x0,x1,t89,t93] h (fun t95 h96=>
R [t95] h96) P
def n26:N2:=fun W R _ _ P x0 x1 h=>
aCall Try.prog W 29 [x0,x1,(.sc (.int .i64 111))] h (fun t97 h98=>
R [t97] h98) P
def n27:N4:=fun W R N E P x0 x1 x7 x122 h=>
aIf x122 (
n26 W R N E P x0 x1 h) (
n25 W R N E P x0 x1 x7 h)
def n28:N3:=fun W R N E P x0 x1 x7 h=>
pFld (some 2) x7 fun t99=>
lLd (some false) (some 1) t99 h fun t100 _=>
(strArg t100=false)/\pLen t100 fun t102=>
pBin Try.prog .neq 3 true t102 (.sc (.int .i64 1)) fun t103=>
n27 W R N E P x0 x1 x7 t103 h
def n29:N4:=fun W R N E P x0 x1 x7 x117 h=>
aIf x117 (
n28 W R N E P x0 x1 x7 h) (
n1 W R N E P h)
def n30:N4:=fun W R N E P x0 x1 x7 x17 h=>
pBin Try.prog .eql 9 true x17 (.sc (.string ⟨#[114,101,115,101,116]⟩)) fun t104=>
n29 W R N E P x0 x1 x7 t104 h
def n31:N5:=fun W R N E P x0 x1 x7 x17 x84 h=>
aIf x84 (
n24 W R N E P x0 x1 x7 h) (
n30 W R N E P x0 x1 x7 x17 h)
def n32:N4:=fun W R N E P x0 x1 x7 x17 h=>
pBin Try.prog .eql 9 true x17 (.sc (.string ⟨#[109,101,97,115,117,114,101]⟩)) fun t105=>
n31 W R N E P x0 x1 x7 x17 t105 h
def n33:N6:=fun W R N E P x0 x1 x2 x7 x17 x78 h=>
aIf x78 (
n17 W R N E P x0 x1 x2 h) (
n32 W R N E P x0 x1 x7 x17 h)
def n34:N5:=fun W R N E P x0 x1 x2 x7 x17 h=>
pBin Try.prog .eql 9 true x17 (.sc (.string ⟨#[117,115,101]⟩)) fun t106=>
n33 W R N E P x0 x1 x2 x7 x17 t106 h
def n35:N6:=fun W R N E P x0 x1 x2 x7 x17 x33 h=>
aIf x33 (
n16 W R N E P x0 x1 x7 h) (
n34 W R N E P x0 x1 x2 x7 x17 h)
def n36:N5:=fun W R N E P x0 x1 x2 x7 x17 h=>
pBin Try.prog .eql 9 true x17 (.sc (.string ⟨#[105,102]⟩)) fun t107=>
n35 W R N E P x0 x1 x2 x7 x17 t107 h
def n37:N6:=fun W R N E P x0 x1 x2 x7 x17 x25 h=>
aIf x25 (
n5 W R N E P x0 x1 x7 h) (
n36 W R N E P x0 x1 x2 x7 x17 h)
def n38:N5:=fun W R N E P x0 x1 x2 x7 x17 h=>
pBin Try.prog .eql 9 true x17 (.sc (.string ⟨#[114,101,112,101,97,116]⟩)) fun t108=>
n37 W R N E P x0 x1 x2 x7 x17 t108 h
def n39:N6:=fun W R N E P x0 x1 x2 x7 x17 x18 h=>
aIf x18 (
n2 W R N E P x0 x1 h) (
n38 W R N E P x0 x1 x2 x7 x17 h)
def n40:N6:=fun W R N E P x0 x1 x2 x7 x17 x18 h=>
aIf x18 (
n39 W R N E P x0 x1 x2 x7 x17 x18 h) (
pBin Try.prog .eql 9 true x17 (.sc (.string ⟨#[103,97,116,101]⟩)) fun t109=>
n39 W R N E P x0 x1 x2 x7 x17 t109 h)
def n41:N5:=fun W R N E P x0 x1 x2 x7 x17 h=>
pBin Try.prog .eql 9 true x17 (.sc (.string ⟨#[98,105,116,115]⟩)) fun t110=>
n40 W R N E P x0 x1 x2 x7 x17 t110 h
def n42:N6:=fun W R N E P x0 x1 x2 x7 x17 x18 h=>
aIf x18 (
n39 W R N E P x0 x1 x2 x7 x17 x18 h) (
n41 W R N E P x0 x1 x2 x7 x17 h)
def n43:N5:=fun W R N E P x0 x1 x2 x7 x17 h=>
pBin Try.prog .eql 9 true x17 (.sc (.string ⟨#[113,117,98,105,116,115]⟩)) fun t111=>
n42 W R N E P x0 x1 x2 x7 x17 t111 h
def n44:N4:=fun W R N E P x0 x1 x2 x7 h=>
pFld (some 0) x7 fun t112=>
lLd (some false) (some 1) t112 h fun t113 _=>
n43 W R N E P x0 x1 x2 x7 t113 h
def n45:N3:=fun W R N E P x0 x1 x2 h=>
pNil x0 fun t115=>
pFld (some 0) t115 fun t116=>
lLd (some false) (some 1) t116 h fun t117 _=>
pIxA (some (6,none)) t117 x1 fun t119=>
lLd (some true) (some 6) t119 h fun t120 _=>
eAlloc (some [.string ⟨#[]⟩,.string ⟨#[]⟩,.slice none 0 0,.int .i64 0,.int .i64 0,.int .i64 0]) 6 42 h fun t122 h123=>
eStore (some 6) t122 t120 h123 W fun h124=>
n44 W R N E P x0 x1 x2 t122 h124
def n46:N3:=fun W R N E P x0 x1 x2 h=>
n45 W R N E P x0 x1 x2 h
theorem callsN {x0 x1 x2:AV} {h:AH} {M:WK} {R:RK} (hp:n46 (fun id=>M id\/h.next<=id) (retV Try.prog [.tmp 6] R) (retV Try.prog [.tmp 6] R) (fun _ _ _=>False) (fun v h=>R (.pan v) h) x0 x1 x2 h):ACalls Try.prog 30 [x0,x1,x2] h M R:=
 fin (n:=137) (pl:=[(11,⟨[(none,(fr 0 8))],false,[],[6]⟩),(14,⟨[(none,(fr 0 4)),(some (3,false),(fr 4 10)),(some (13,true),(fr 14 12)),(some (3,false),(fr 26 1)),(none,(fr 27 1))],false,[],[]⟩),(21,⟨[(none,(fr 0 12)),(some (11,true),(fr 12 11)),(none,(fr 23 2))],false,[],[]⟩),(25,⟨[(none,(fr 0 12))],false,[],[]⟩)]) (rs:=[.tmp 6]) (L:=rs) (fun c=>(a3 n46 0 1 2 c)) Try.mixed Try.func30 (fun c=>
(sq (a3 n46 0 1 2 c)
(sq (a3 n45 0 1 2 c)
(sn
(sl (a0 n1 c))
(sq (a4 n44 0 1 2 7 c)
(bk 0 (sn
(cd (a6 n39 0 1 2 7 17 18 c) (sl (a2 n2 0 1 c)) (sq (a5 n38 0 1 2 7 17 c)
(cd (a6 n37 0 1 2 7 17 25 c) (sq (a3 n5 0 1 7 c)
(cd (a3 n4 0 1 29 c) (sl (a2 n3 0 1 c)) tr)) (sq (a5 n36 0 1 2 7 17 c)
(cd (a6 n35 0 1 2 7 17 33 c) (sn
(sn
(sn
(cd (a3 n7 0 1 74 c) (sl (a2 n6 0 1 c)) tr)
(gr (gn (a4 n12 0 1 7 8 c) (gx (a5 n11 0 1 7 8 50 c) (gx (a6 n10 0 1 7 8 50 60 c) (gx (a5 n9 0 1 50 60 72 c) (gl (a4 n8 0 1 50 73 c))))))))
(sq (a4 n15 0 1 7 8 c)
(cd (a5 n14 0 1 7 8 43 c) (sl (a2 n13 0 1 c)) tr)))
(gr (gl (a3 n16 0 1 7 c)))) (sq (a5 n34 0 1 2 7 17 c)
(cd (a6 n33 0 1 2 7 17 78 c) (sl (a3 n17 0 1 2 c)) (sq (a4 n32 0 1 7 17 c)
(cd (a5 n31 0 1 7 17 84 c) (sn
(sn
(sm (a1 n18 6 c))
(gr (gn (a3 n21 0 1 7 c) (gx (a4 n20 0 1 7 104 c) (gl (a2 n19 104 115 c))))))
(sq (a3 n24 0 1 7 c)
(cd (a4 n23 0 1 7 89 c) (sl (a2 n22 0 1 c)) tr))) (sq (a4 n30 0 1 7 17 c)
(cd (a4 n29 0 1 7 117 c) (sn
(sl (a3 n25 0 1 7 c))
(sq (a3 n28 0 1 7 c)
(cd (a4 n27 0 1 7 122 c) (sl (a2 n26 0 1 c)) tr))) tr)))))))))))
(sq (a5 n43 0 1 2 7 17 c)
(cd (a6 n42 0 1 2 7 17 18 c) tr (sq (a5 n41 0 1 2 7 17 c)
(cd (a6 n40 0 1 2 7 17 18 c) tr tr))))))))))) hp
attribute [simp] n1 n2 n3 n4 n5 n6 n7 n8 n9 n10 n11 n12 n13 n14 n15 n16 n17 n18 n19 n20 n21 n22 n23 n24 n25 n26 n27 n28 n29 n30 n31 n32 n33 n34 n35 n36 n37 n38 n39 n40 n41 n42 n43 n44 n45 n46
end F30
namespace F50
abbrev rs:List Nat:=[4]
def n1:N0:=fun _ R _ _ _ h=>
R [(.sc (.bool true))] h
def n2:N3:=fun W R N E P x0 x5 x6 h=>
pNil x0 fun t1=>
pFld (some 1) t1 fun t2=>
lLd (some false) (some 1) t2 h fun t3 _=>
pFld (some 1) x5 fun t5=>
lLd (some false) (some 1) t5 h fun t6 _=>
pFld (some 3) x5 fun t8=>
lLd (some false) (some 1) t8 h fun t9 _=>
pBld (some ([.string ⟨#[]⟩,.int .i64 0,.int .i64 0],.inl [(0,1),(1,1),(2,1)])) [(0,t6),(1,x6),(2,t9)] fun t11=>
eBSl (some (3,85,[.string ⟨#[]⟩,.int .i64 0,.int .i64 0])) 1 [(0,t11)] h fun t12 h13=>
eApp (some (3,32,85)) t3 t12 h13 W fun t14 h15=>
pNil x0 fun t16=>
pFld (some 1) t16 fun t17=>
eStore (some 1) t17 t14 h15 W fun h18=>
n1 W R N E P h18
def n3:N2:=fun W R _ _ P x0 x1 h=>
aCall Try.prog W 29 [x0,x1,(.sc (.int .i64 1))] h (fun t19 h20=>
R [t19] h20) P
def n4:N5:=fun W R N E P x0 x1 x5 x6 x104 h=>
aIf x104 (
n3 W R N E P x0 x1 h) (
n2 W R N E P x0 x5 x6 h)
def n5:N4:=fun W R N E P x0 x1 x5 x6 h=>
pFld (some 3) x5 fun t21=>
lLd (some false) (some 1) t21 h fun t22 _=>
pBin Try.prog .sub 3 true (.sc (.int .i64 64)) x6 fun t24=>
pBin Try.prog .gtr 3 false t22 t24 fun t25=>
n4 W R N E P x0 x1 x5 x6 t25 h
def n6:N3:=fun W R N E P x0 x1 x5 h=>
pNil x0 fun t26=>
pFld (some 1) t26 fun t27=>
lLd (some false) (some 1) t27 h fun t28 _=>
aCall Try.prog W 18 [t28] h (fun t30 h31=>
n5 W R N E P x0 x1 x5 t30 h31) P
def n7:N2:=fun W R _ _ P x0 x1 h=>
aCall Try.prog W 29 [x0,x1,(.sc (.int .i64 112))] h (fun t32 h33=>
R [t32] h33) P
def n8:N4:=fun W R N E P x0 x1 x5 x91 h=>
aIf x91 (
n7 W R N E P x0 x1 h) (
n6 W R N E P x0 x1 x5 h)
def n9:N3:=fun W R N E P x0 x1 x5 h=>
pFld (some 3) x5 fun t34=>
lLd (some false) (some 1) t34 h fun t35 _=>
pBin Try.prog .lss 3 true t35 (.sc (.int .i64 1)) fun t37=>
n8 W R N E P x0 x1 x5 t37 h
def n10:N3:=fun W R N E P x0 x5 x7 h=>
pNil x0 fun t38=>
pFld (some 2) t38 fun t39=>
lLd (some false) (some 1) t39 h fun t40 _=>
pFld (some 1) x5 fun t42=>
lLd (some false) (some 1) t42 h fun t43 _=>
pFld (some 3) x5 fun t45=>
lLd (some false) (some 1) t45 h fun t46 _=>
pBld (some ([.string ⟨#[]⟩,.int .i64 0,.int .i64 0],.inl [(0,1),(1,1),(2,1)])) [(0,t43),(1,x7),(2,t46)] fun t48=>
eBSl (some (3,85,[.string ⟨#[]⟩,.int .i64 0,.int .i64 0])) 1 [(0,t48)] h fun t49 h50=>
eApp (some (3,32,85)) t40 t49 h50 W fun t51 h52=>
pNil x0 fun t53=>
pFld (some 2) t53 fun t54=>
eStore (some 1) t54 t51 h52 W fun h55=>
n1 W R N E P h55
def n11:N2:=fun W R _ _ P x0 x1 h=>
aCall Try.prog W 29 [x0,x1,(.sc (.int .i64 1))] h (fun t56 h57=>
R [t56] h57) P
def n12:N5:=fun W R N E P x0 x1 x5 x7 x140 h=>
aIf x140 (
n11 W R N E P x0 x1 h) (
n10 W R N E P x0 x5 x7 h)
def n13:N4:=fun W R N E P x0 x1 x5 x7 h=>
pFld (some 3) x5 fun t58=>
lLd (some false) (some 1) t58 h fun t59 _=>
pBin Try.prog .sub 3 true (.sc (.int .i64 64)) x7 fun t61=>
pBin Try.prog .gtr 3 false t59 t61 fun t62=>
n12 W R N E P x0 x1 x5 x7 t62 h
def n14:N3:=fun W R N E P x0 x1 x5 h=>
pNil x0 fun t63=>
pFld (some 2) t63 fun t64=>
lLd (some false) (some 1) t64 h fun t65 _=>
aCall Try.prog W 18 [t65] h (fun t67 h68=>
n13 W R N E P x0 x1 x5 t67 h68) P
def n15:N2:=fun W R _ _ P x0 x1 h=>
aCall Try.prog W 29 [x0,x1,(.sc (.int .i64 112))] h (fun t69 h70=>
R [t69] h70) P
def n16:N4:=fun W R N E P x0 x1 x5 x127 h=>
aIf x127 (
n15 W R N E P x0 x1 h) (
n14 W R N E P x0 x1 x5 h)
def n17:N3:=fun W R N E P x0 x1 x5 h=>
pFld (some 3) x5 fun t71=>
lLd (some false) (some 1) t71 h fun t72 _=>
pBin Try.prog .lss 3 true t72 (.sc (.int .i64 1)) fun t74=>
n16 W R N E P x0 x1 x5 t74 h
def n18:N2:=fun W R N E P x0 x8 h=>
pNil x0 fun t75=>
pFld (some 3) t75 fun t76=>
lLd (some false) (some 1) t76 h fun t77 _=>
lLd (some true) (some 7) x8 h fun t79 _=>
eBSl (some (7,78,[.string ⟨#[]⟩,.slice none 0 0,.int .i64 0,.int .i64 0,.int .i64 0,.int .i64 0,.bool false])) 1 [(0,t79)] h fun t81 h82=>
eApp (some (7,80,78)) t77 t81 h82 W fun t83 h84=>
pNil x0 fun t85=>
pFld (some 3) t85 fun t86=>
eStore (some 1) t86 t83 h84 W fun h87=>
n1 W R N E P h87
def n19:N2:=fun W R _ _ P x0 x1 h=>
aCall Try.prog W 29 [x0,x1,(.sc (.int .i64 113))] h (fun t88 h89=>
R [t88] h89) P
def n20:N4:=fun W R N E P x0 x1 x8 x73 h=>
aIf x73 (
n19 W R N E P x0 x1 h) (
n18 W R N E P x0 x8 h)
def n21:N3:=fun W R N E P x0 x1 x8 h=>
pFld (some 1) x8 fun t90=>
lLd (some false) (some 1) t90 h fun t91 _=>
aCall Try.prog W 81 [t91] h (fun t93 h94=>
n20 W R N E P x0 x1 x8 t93 h94) P
def n22:N5:=fun _ _ N _ _ x0 x1 x5 x8 x9 h=>
pBin Try.prog .add 3 true x9 (.sc (.int .i64 1)) fun t95=>
N [x0,x1,x5,x8,t95] h
def n23:N5:=fun W R N E P x0 x1 x5 x8 x9 h=>
pFld (some 1) x8 fun t96=>
lLd (some false) (some 1) t96 h fun t97 _=>
pFld (some 2) x5 fun t99=>
lLd (some false) (some 1) t99 h fun t100 _=>
pIxA (some (2,none)) t100 x9 fun t102=>
pFld (some 0) t102 fun t103=>
lLd (some false) (some 1) t103 h fun t104 _=>
eBSl (some (1,9,[.string ⟨#[]⟩])) 1 [(0,t104)] h fun t106 h107=>
eApp (some (1,16,9)) t97 t106 h107 W fun t108 h109=>
pFld (some 1) x8 fun t110=>
eStore (some 1) t110 t108 h109 W fun h111=>
n22 W R N E P x0 x1 x5 x8 x9 h111
def n24:N2:=fun W R _ _ P x0 x1 h=>
aCall Try.prog W 29 [x0,x1,(.sc (.int .i64 112))] h (fun t112 h113=>
R [t112] h113) P
def n25:N6:=fun W R N E P x0 x1 x5 x8 x9 x56 h=>
aIf x56 (
n24 W R N E P x0 x1 h) (
n23 W R N E P x0 x1 x5 x8 x9 h)
def n26:N5:=fun W R N E P x0 x1 x5 x8 x9 h=>
pFld (some 2) x5 fun t114=>
lLd (some false) (some 1) t114 h fun t115 _=>
pIxA (some (2,none)) t115 x9 fun t117=>
pFld (some 1) t117 fun t118=>
lLd (some false) (some 1) t118 h fun t119 _=>
pBin Try.prog .neq 3 true t119 (.sc (.int .i64 (-1))) fun t121=>
n25 W R N E P x0 x1 x5 x8 x9 t121 h
def n27:N6:=fun W R N E P x0 x1 x5 x8 x9 x47 h=>
aIf x47 (
n26 W R N E P x0 x1 x5 x8 x9 h) (
E 1 [x0,x1,x8] h)
def n28:N5:=fun W R N E P x0 x1 x5 x8 x9 h=>
pFld (some 2) x5 fun t122=>
lLd (some false) (some 1) t122 h fun t123 _=>
(strArg t123=false)/\pLen t123 fun t125=>
pBin Try.prog .lss 3 false x9 t125 fun t126=>
n27 W R N E P x0 x1 x5 x8 x9 t126 h
def g1_:GK:=fun W R N E P N' vs h=>n28 W R N' (fun (i:Nat) (vs:List AV) (h:AH)=>if i=1 then n21 W R N E P (vs.getD 0 noA) (vs.getD 1 noA) (vs.getD 2 noA) h else if i=0 then n1 W R N E P h else E i vs h) P (vs.getD 0 noA) (vs.getD 1 noA) (vs.getD 2 noA) (vs.getD 3 noA) (vs.getD 4 noA) h
def n29:N5:=fun W R N E P x0 x1 x5 x8 x9 h=>
vLoop (g1_ W R N E P) [x0,x1,x5,x8,x9] h
def n30:N4:=fun W R N E P x0 x1 x5 x8 h=>
n29 W R N E P x0 x1 x5 x8 (.sc (.int .i64 0)) h
def n31:N3:=fun W R N E P x0 x1 x5 h=>
pFld (some 1) x5 fun t127=>
lLd (some false) (some 1) t127 h fun t128 _=>
pBin Try.prog .add 3 true x1 (.sc (.int .i64 1)) fun t130=>
pBin Try.prog .add 3 true x1 (.sc (.int .i64 1)) fun t131=>
pFld (some 4) x5 fun t132=>
lLd (some false) (some 1) t132 h fun t133 _=>
pBin Try.prog .add 3 false t131 t133 fun t135=>
pBld (some ([.string ⟨#[]⟩,.slice none 0 0,.int .i64 0,.int .i64 0,.int .i64 0,.int .i64 0,.bool false],.inl [(0,1),(1,1),(2,1),(3,1),(4,1),(5,1),(6,1)])) [(0,t128),(2,t130),(3,t135),(4,(.sc (.int .i64 1))),(6,(.sc (.bool true)))] fun t136=>
eAlloc (some [.string ⟨#[]⟩,.slice none 0 0,.int .i64 0,.int .i64 0,.int .i64 0,.int .i64 0,.bool false]) 7 78 h fun t137 h138=>
eStore (some 7) t137 t136 h138 W fun h139=>
n30 W R N E P x0 x1 x5 t137 h139
def n32:N2:=fun W R _ _ P x0 x1 h=>
aCall Try.prog W 29 [x0,x1,(.sc (.int .i64 111))] h (fun t140 h141=>
R [t140] h141) P
def n33:N4:=fun W R N E P x0 x1 x5 x29 h=>
aIf x29 (
n32 W R N E P x0 x1 h) (
n31 W R N E P x0 x1 x5 h)
def n34:N3:=fun W R N E P x0 x1 x5 h=>
pFld (some 2) x5 fun t142=>
lLd (some false) (some 1) t142 h fun t143 _=>
(strArg t143=false)/\pLen t143 fun t145=>
pBin Try.prog .eql 3 true t145 (.sc (.int .i64 0)) fun t146=>
n33 W R N E P x0 x1 x5 t146 h
def n35:N4:=fun W R N E P x0 x1 x5 x123 h=>
aIf x123 (
n17 W R N E P x0 x1 x5 h) (
n34 W R N E P x0 x1 x5 h)
def n36:N4:=fun W R N E P x0 x1 x5 x25 h=>
pBin Try.prog .eql 9 true x25 (.sc (.string ⟨#[98,105,116,115]⟩)) fun t147=>
n35 W R N E P x0 x1 x5 t147 h
def n37:N5:=fun W R N E P x0 x1 x5 x25 x87 h=>
aIf x87 (
n9 W R N E P x0 x1 x5 h) (
n36 W R N E P x0 x1 x5 x25 h)
def n38:N4:=fun W R N E P x0 x1 x5 x25 h=>
pBin Try.prog .eql 9 true x25 (.sc (.string ⟨#[113,117,98,105,116,115]⟩)) fun t148=>
n37 W R N E P x0 x1 x5 x25 t148 h
def n39:N3:=fun W R N E P x0 x1 x5 h=>
pFld (some 0) x5 fun t149=>
lLd (some false) (some 1) t149 h fun t150 _=>
n38 W R N E P x0 x1 x5 t150 h
def n40:N2:=fun W R _ _ P x0 x1 h=>
aCall Try.prog W 29 [x0,x1,(.sc (.int .i64 110))] h (fun t152 h153=>
R [t152] h153) P
def n41:N4:=fun W R N E P x0 x1 x5 x20 h=>
aIf x20 (
n40 W R N E P x0 x1 h) (
n39 W R N E P x0 x1 x5 h)
def n42:N3:=fun W R N E P x0 x1 x5 h=>
pFld (some 1) x5 fun t154=>
lLd (some false) (some 1) t154 h fun t155 _=>
aCall Try.prog W 80 [x0,t155] h (fun t157 h158=>
n41 W R N E P x0 x1 x5 t157 h158) P
def n43:N2:=fun W R N E P x0 x1 h=>
pNil x0 fun t159=>
pFld (some 0) t159 fun t160=>
lLd (some false) (some 1) t160 h fun t161 _=>
pIxA (some (6,none)) t161 x1 fun t163=>
lLd (some true) (some 6) t163 h fun t164 _=>
eAlloc (some [.string ⟨#[]⟩,.string ⟨#[]⟩,.slice none 0 0,.int .i64 0,.int .i64 0,.int .i64 0]) 6 42 h fun t166 h167=>
eStore (some 6) t166 t164 h167 W fun h168=>
n42 W R N E P x0 x1 t166 h168
def n44:N2:=fun W R N E P x0 x1 h=>
n43 W R N E P x0 x1 h
theorem callsN {x0 x1:AV} {h:AH} {M:WK} {R:RK} (hp:n44 (fun id=>M id\/h.next<=id) (retV Try.prog [.tmp 4] R) (retV Try.prog [.tmp 4] R) (fun _ _ _=>False) (fun v h=>R (.pan v) h) x0 x1 h):ACalls Try.prog 50 [x0,x1] h M R:=
 fin (n:=159) (pl:=[(13,⟨[(none,(fr 0 12))],false,[],[]⟩),(16,⟨[(none,(fr 0 11))],false,[],[]⟩),(23,⟨[(none,(fr 0 16))],false,[],[]⟩),(30,⟨[(none,(fr 0 16))],false,[],[]⟩)]) (rs:=[.tmp 4]) (L:=rs) (fun c=>(a2 n44 0 1 c)) Try.mixed Try.func50 (fun c=>
(sq (a2 n44 0 1 c)
(sq (a2 n43 0 1 c)
(sn
(sn
(sl (a0 n1 c))
(sq (a3 n39 0 1 5 c)
(bk 0 (sq (a4 n38 0 1 5 25 c)
(cd (a5 n37 0 1 5 25 87 c) (sn
(sq (a3 n6 0 1 5 c)
(sn
(sm (a3 n2 0 5 6 c))
(sq (a4 n5 0 1 5 6 c)
(cd (a5 n4 0 1 5 6 104 c) (sl (a2 n3 0 1 c)) tr))))
(sq (a3 n9 0 1 5 c)
(cd (a4 n8 0 1 5 91 c) (sl (a2 n7 0 1 c)) tr))) (sq (a4 n36 0 1 5 25 c)
(cd (a4 n35 0 1 5 123 c) (sn
(sq (a3 n14 0 1 5 c)
(sn
(sm (a3 n10 0 5 7 c))
(sq (a4 n13 0 1 5 7 c)
(cd (a5 n12 0 1 5 7 140 c) (sl (a2 n11 0 1 c)) tr))))
(sq (a3 n17 0 1 5 c)
(cd (a4 n16 0 1 5 127 c) (sl (a2 n15 0 1 c)) tr))) (sn
(sq (a3 n31 0 1 5 c)
(sn
(sn
(sm (a2 n18 0 8 c))
(sq (a3 n21 0 1 8 c)
(cd (a4 n20 0 1 8 73 c) (sl (a2 n19 0 1 c)) tr)))
(sq (a4 n30 0 1 5 8 c)
(bk 1 (lp [0,1,5,8,9] rs [(1,[0,1,8]),(0,[])] (a5 n29 0 1 5 8 9 c) g1_ (fun i vs h=>if i=1 then n21 c.W c.R c.N c.E c.P (vs.getD 0 noA) (vs.getD 1 noA) (vs.getD 2 noA) h else if i=0 then n1 c.W c.R c.N c.E c.P h else c.E i vs h) (.b (.t (.b (.t .o)))) fun c=>
(sn
(sn
(sm (a5 n22 0 1 5 8 9 c))
(bk 2 (sn
(sm (a5 n23 0 1 5 8 9 c))
(sq (a5 n26 0 1 5 8 9 c)
(cd (a6 n25 0 1 5 8 9 56 c) (sl (a2 n24 0 1 c)) tr)))))
(sq (a5 n28 0 1 5 8 9 c)
(cd (a6 n27 0 1 5 8 9 47 c) tr tr))))))))
(sq (a3 n34 0 1 5 c)
(cd (a4 n33 0 1 5 29 c) (sl (a2 n32 0 1 c)) tr))))))))))
(sq (a3 n42 0 1 5 c)
(cd (a4 n41 0 1 5 20 c) (sl (a2 n40 0 1 c)) tr)))))) hp
attribute [simp] n1 n2 n3 n4 n5 n6 n7 n8 n9 n10 n11 n12 n13 n14 n15 n16 n17 n18 n19 n20 n21 n22 n23 n24 n25 n26 n27 n28 n30 n31 n32 n33 n34 n35 n36 n37 n38 n39 n40 n41 n42 n43 n44
end F50
namespace F51
abbrev rs:List Nat:=[6]
def n1:N0:=fun _ R _ _ _ h=>
R [(.sc (.bool true))] h
def n2:N2:=fun W R _ _ P x0 x1 h=>
aCall Try.prog W 29 [x0,x1,(.sc (.int .i64 102))] h (fun t1 h2=>
R [t1] h2) P
def n3:N3:=fun W R N E P x0 x1 x181 h=>
aIf x181 (
n2 W R N E P x0 x1 h) (
n1 W R N E P h)
def n4:N3:=fun W R N E P x0 x1 x10 h=>
pBin Try.prog .add 3 true x10 (.sc (.int .i64 1)) fun t3=>
pBin Try.prog .gtr 3 true t3 (.sc (.int .i64 32)) fun t4=>
n3 W R N E P x0 x1 t4 h
def n5:N4:=fun W R N E P x0 x1 x2 x10 h=>
pNil x0 fun t5=>
pFld (some 3) t5 fun t6=>
lLd (some false) (some 1) t6 h fun t7 _=>
pBin Try.prog .add 3 true x10 (.sc (.int .i64 1)) fun t9=>
pIxA (some (7,none)) t7 x2 fun t10=>
pFld (some 4) t10 fun t11=>
eStore (some 1) t11 t9 h W fun h12=>
n4 W R N E P x0 x1 x10 h12
def n6:N5:=fun W R N E P x0 x1 x2 x10 x169 h=>
aIf x169 (
n5 W R N E P x0 x1 x2 x10 h) (
n1 W R N E P h)
def n7:N6:=fun W R N E P x0 x1 x2 x10 x157 x168 h=>
pPick x157 x168 (.sc (.bool false)) fun t13=>
n6 W R N E P x0 x1 x2 x10 t13 h
def n8:N5:=fun W R N E P x0 x1 x2 x10 x157 h=>
aIg true x157 (
pBin Try.prog .add 3 true x10 (.sc (.int .i64 1)) fun t14=>
pNil x0 fun t15=>
pFld (some 3) t15 fun t16=>
lLd (some false) (some 1) t16 h fun t17 _=>
pIxA (some (7,none)) t17 x2 fun t19=>
pFld (some 4) t19 fun t20=>
lLd (some false) (some 1) t20 h fun t21 _=>
pBin Try.prog .gtr 3 false t14 t21 fun t23=>
n7 W R N E P x0 x1 x2 x10 x157 t23 h) (
n7 W R N E P x0 x1 x2 x10 x157 noA h)
def n9:N4:=fun W R N E P x0 x1 x2 x10 h=>
pBin Try.prog .geq 3 true x2 (.sc (.int .i64 0)) fun t24=>
n8 W R N E P x0 x1 x2 x10 t24 h
def n10:N7:=fun _ _ N _ _ x0 x1 x2 x7 x9 x10 x13 h=>
pBin Try.prog .add 3 true x13 (.sc (.int .i64 1)) fun t25=>
N [x0,x1,x2,x7,x9,x10,t25] h
def n11:N8:=fun _ _ N _ _ x0 x1 x2 x7 x9 x10 x13 x14 h=>
pBin Try.prog .add 3 true x14 (.sc (.int .i64 1)) fun t26=>
N [x0,x1,x2,x7,x9,x10,x13,t26] h
def n12:N2:=fun W R _ _ P x0 x1 h=>
aCall Try.prog W 29 [x0,x1,(.sc (.int .i64 113))] h (fun t27 h28=>
R [t27] h28) P
def n13:N9:=fun W R N E P x0 x1 x2 x7 x9 x10 x13 x14 x151 h=>
aIf x151 (
n12 W R N E P x0 x1 h) (
n11 W R N E P x0 x1 x2 x7 x9 x10 x13 x14 h)
def n14:N8:=fun W R N E P x0 x1 x2 x7 x9 x10 x13 x14 h=>
pFld (some 2) x7 fun t29=>
lLd (some false) (some 1) t29 h fun t30 _=>
pIxA (some (2,none)) t30 x13 fun t32=>
lLd (some true) (some 2) t32 h fun t33 _=>
pFld (some 2) x7 fun t35=>
lLd (some false) (some 1) t35 h fun t36 _=>
pIxA (some (2,none)) t36 x14 fun t38=>
lLd (some true) (some 2) t38 h fun t39 _=>
pBin Try.prog .eql 44 false t33 t39 fun t41=>
n13 W R N E P x0 x1 x2 x7 x9 x10 x13 x14 t41 h
def n15:N9:=fun W R N E P x0 x1 x2 x7 x9 x10 x13 x14 x138 h=>
aIf x138 (
n14 W R N E P x0 x1 x2 x7 x9 x10 x13 x14 h) (
E 4 [x0,x1,x2,x7,x9,x10,x13] h)
def n16:N8:=fun W R N E P x0 x1 x2 x7 x9 x10 x13 x14 h=>
pBin Try.prog .lss 3 false x14 x13 fun t42=>
n15 W R N E P x0 x1 x2 x7 x9 x10 x13 x14 t42 h
def g2_:GK:=fun W R N E P N' vs h=>n16 W R N' (fun (i:Nat) (vs:List AV) (h:AH)=>if i=4 then n10 W R N E P (vs.getD 0 noA) (vs.getD 1 noA) (vs.getD 2 noA) (vs.getD 3 noA) (vs.getD 4 noA) (vs.getD 5 noA) (vs.getD 6 noA) h else if i=3 then n10 W R N E P (vs.getD 0 noA) (vs.getD 1 noA) (vs.getD 2 noA) (vs.getD 3 noA) (vs.getD 4 noA) (vs.getD 5 noA) (vs.getD 6 noA) h else E i vs h) P (vs.getD 0 noA) (vs.getD 1 noA) (vs.getD 2 noA) (vs.getD 3 noA) (vs.getD 4 noA) (vs.getD 5 noA) (vs.getD 6 noA) (vs.getD 7 noA) h
def n17:N8:=fun W R N E P x0 x1 x2 x7 x9 x10 x13 x14 h=>
vLoop (g2_ W R N E P) [x0,x1,x2,x7,x9,x10,x13,x14] h
def n18:N7:=fun W R N E P x0 x1 x2 x7 x9 x10 x13 h=>
n17 W R N E P x0 x1 x2 x7 x9 x10 x13 (.sc (.int .i64 0)) h
def n19:N8:=fun W R N E P x0 x1 x2 x7 x9 x10 x13 x133 h=>
aIf x133 (
n18 W R N E P x0 x1 x2 x7 x9 x10 x13 h) (
E 2 [x0,x1,x2,x10] h)
def n20:N7:=fun W R N E P x0 x1 x2 x7 x9 x10 x13 h=>
pBin Try.prog .lss 3 false x13 x9 fun t43=>
n19 W R N E P x0 x1 x2 x7 x9 x10 x13 t43 h
def g1_:GK:=fun W R N E P N' vs h=>n20 W R N' (fun (i:Nat) (vs:List AV) (h:AH)=>if i=2 then n9 W R N E P (vs.getD 0 noA) (vs.getD 1 noA) (vs.getD 2 noA) (vs.getD 3 noA) h else E i vs h) P (vs.getD 0 noA) (vs.getD 1 noA) (vs.getD 2 noA) (vs.getD 3 noA) (vs.getD 4 noA) (vs.getD 5 noA) (vs.getD 6 noA) h
def n21:N7:=fun W R N E P x0 x1 x2 x7 x9 x10 x13 h=>
vLoop (g1_ W R N E P) [x0,x1,x2,x7,x9,x10,x13] h
def n22:N6:=fun W R N E P x0 x1 x2 x7 x9 x10 h=>
n21 W R N E P x0 x1 x2 x7 x9 x10 (.sc (.int .i64 0)) h
def n23:N7:=fun _ _ N _ _ x0 x1 x2 x7 x9 x10 x11 h=>
pBin Try.prog .add 3 true x11 (.sc (.int .i64 1)) fun t44=>
N [x0,x1,x2,x7,x9,x10,t44] h
def n24:N2:=fun W R _ _ P x0 x1 h=>
aCall Try.prog W 29 [x0,x1,(.sc (.int .i64 110))] h (fun t45 h46=>
R [t45] h46) P
def n25:N8:=fun W R N E P x0 x1 x2 x7 x9 x10 x11 x127 h=>
aIf x127 (
n24 W R N E P x0 x1 h) (
n23 W R N E P x0 x1 x2 x7 x9 x10 x11 h)
def n26:N8:=fun W R N E P x0 x1 x2 x7 x9 x10 x11 x12 h=>
pNil x0 fun t47=>
pFld (some 3) t47 fun t48=>
lLd (some false) (some 1) t48 h fun t49 _=>
pIxA (some (7,none)) t49 x2 fun t51=>
pFld (some 1) t51 fun t52=>
lLd (some false) (some 1) t52 h fun t53 _=>
pFld (some 0) x12 fun t55=>
lLd (some false) (some 1) t55 h fun t56 _=>
aCall Try.prog noW 82 [t53,t56] h (fun t58 h59=>
pBin Try.prog .lss 3 true t58 (.sc (.int .i64 0)) fun t60=>
n25 W R N E P x0 x1 x2 x7 x9 x10 x11 t60 h59) P
def n27:N2:=fun W R _ _ P x0 x1 h=>
aCall Try.prog W 29 [x0,x1,(.sc (.int .i64 112))] h (fun t61 h62=>
R [t61] h62) P
def n28:N9:=fun W R N E P x0 x1 x2 x7 x9 x10 x11 x12 x112 h=>
aIf x112 (
n27 W R N E P x0 x1 h) (
n26 W R N E P x0 x1 x2 x7 x9 x10 x11 x12 h)
def n29:N8:=fun W R N E P x0 x1 x2 x7 x9 x10 x11 x12 h=>
pFld (some 1) x12 fun t63=>
lLd (some false) (some 1) t63 h fun t64 _=>
pBin Try.prog .neq 3 true t64 (.sc (.int .i64 (-1))) fun t66=>
n28 W R N E P x0 x1 x2 x7 x9 x10 x11 x12 t66 h
def n30:N7:=fun W R N E P x0 x1 x2 x7 x9 x10 x11 h=>
n23 W R N E P x0 x1 x2 x7 x9 x10 x11 h
def n31:N0:=fun _ R _ _ _ h=>
R [(.sc (.bool false))] h
def n32:N8:=fun W R N E P x0 x1 x2 x7 x9 x10 x11 x109 h=>
aIf x109 (
n31 W R N E P h) (
n30 W R N E P x0 x1 x2 x7 x9 x10 x11 h)
def n33:N8:=fun W R N E P x0 x1 x2 x7 x9 x10 x11 x12 h=>
lLd (some true) (some 2) x12 h fun t67 _=>
pNil x0 fun t69=>
pFld (some 1) t69 fun t70=>
lLd (some false) (some 1) t70 h fun t71 _=>
aCall Try.prog W 52 [x0,x1,t67,t71] h (fun t73 h74=>
pUn .not t73 fun t75=>
n32 W R N E P x0 x1 x2 x7 x9 x10 x11 t75 h74) P
def n34:N9:=fun W R N E P x0 x1 x2 x7 x9 x10 x11 x12 x100 h=>
aIf x100 (
n33 W R N E P x0 x1 x2 x7 x9 x10 x11 x12 h) (
n29 W R N E P x0 x1 x2 x7 x9 x10 x11 x12 h)
def n35:N8:=fun W R N E P x0 x1 x2 x7 x9 x10 x11 x12 h=>
pBin Try.prog .lss 3 true x2 (.sc (.int .i64 0)) fun t76=>
n34 W R N E P x0 x1 x2 x7 x9 x10 x11 x12 t76 h
def n36:N7:=fun W R N E P x0 x1 x2 x7 x9 x10 x11 h=>
pFld (some 2) x7 fun t77=>
lLd (some false) (some 1) t77 h fun t78 _=>
pIxA (some (2,none)) t78 x11 fun t80=>
lLd (some true) (some 2) t80 h fun t81 _=>
eAlloc (some [.string ⟨#[]⟩,.int .i64 0]) 2 44 h fun t83 h84=>
eStore (some 2) t83 t81 h84 W fun h85=>
n35 W R N E P x0 x1 x2 x7 x9 x10 x11 t83 h85
def n37:N8:=fun W R N E P x0 x1 x2 x7 x9 x10 x11 x91 h=>
aIf x91 (
n36 W R N E P x0 x1 x2 x7 x9 x10 x11 h) (
E 0 [x0,x1,x2,x7,x9,x10] h)
def n38:N7:=fun W R N E P x0 x1 x2 x7 x9 x10 x11 h=>
pBin Try.prog .lss 3 false x11 x9 fun t86=>
n37 W R N E P x0 x1 x2 x7 x9 x10 x11 t86 h
def g3_:GK:=fun W R N E P N' vs h=>n38 W R N' (fun (i:Nat) (vs:List AV) (h:AH)=>if i=0 then n22 W R N E P (vs.getD 0 noA) (vs.getD 1 noA) (vs.getD 2 noA) (vs.getD 3 noA) (vs.getD 4 noA) (vs.getD 5 noA) h else E i vs h) P (vs.getD 0 noA) (vs.getD 1 noA) (vs.getD 2 noA) (vs.getD 3 noA) (vs.getD 4 noA) (vs.getD 5 noA) (vs.getD 6 noA) h
def n39:N7:=fun W R N E P x0 x1 x2 x7 x9 x10 x11 h=>
vLoop (g3_ W R N E P) [x0,x1,x2,x7,x9,x10,x11] h
def n40:N6:=fun W R N E P x0 x1 x2 x7 x9 x10 h=>
n39 W R N E P x0 x1 x2 x7 x9 x10 (.sc (.int .i64 0)) h
def n41:N2:=fun W R _ _ P x0 x1 h=>
aCall Try.prog W 29 [x0,x1,(.sc (.int .i64 111))] h (fun t87 h88=>
R [t87] h88) P
def n42:N7:=fun W R N E P x0 x1 x2 x7 x9 x10 x85 h=>
aIf x85 (
n41 W R N E P x0 x1 h) (
n40 W R N E P x0 x1 x2 x7 x9 x10 h)
def n43:N6:=fun W R N E P x0 x1 x2 x7 x9 x10 h=>
pFld (some 2) x7 fun t89=>
lLd (some false) (some 1) t89 h fun t90 _=>
(strArg t90=false)/\pLen t90 fun t92=>
pBin Try.prog .neq 3 false t92 x9 fun t93=>
n42 W R N E P x0 x1 x2 x7 x9 x10 t93 h
def n44:N5:=fun W R N E P x0 x1 x2 x7 x8 h=>
pNil x0 fun t94=>
pFld (some 3) t94 fun t95=>
lLd (some false) (some 1) t95 h fun t96 _=>
pIxA (some (7,none)) t96 x8 fun t98=>
pFld (some 1) t98 fun t99=>
lLd (some false) (some 1) t99 h fun t100 _=>
(strArg t100=false)/\pLen t100 fun t102=>
pNil x0 fun t103=>
pFld (some 3) t103 fun t104=>
lLd (some false) (some 1) t104 h fun t105 _=>
pIxA (some (7,none)) t105 x8 fun t107=>
pFld (some 4) t107 fun t108=>
lLd (some false) (some 1) t108 h fun t109 _=>
n43 W R N E P x0 x1 x2 x7 t102 t109 h
def n45:N2:=fun W R _ _ P x0 x1 h=>
aCall Try.prog W 29 [x0,x1,(.sc (.int .i64 80))] h (fun t111 h112=>
R [t111] h112) P
def n46:N6:=fun W R N E P x0 x1 x2 x7 x8 x60 h=>
aIf x60 (
n45 W R N E P x0 x1 h) (
n44 W R N E P x0 x1 x2 x7 x8 h)
def n47:N7:=fun W R N E P x0 x1 x2 x7 x8 x51 x59 h=>
pPick x51 (.sc (.bool true)) x59 fun t113=>
n46 W R N E P x0 x1 x2 x7 x8 t113 h
def n48:N6:=fun W R N E P x0 x1 x2 x7 x8 x51 h=>
aIg false x51 (
pNil x0 fun t114=>
pFld (some 3) t114 fun t115=>
lLd (some false) (some 1) t115 h fun t116 _=>
pIxA (some (7,none)) t116 x8 fun t118=>
pFld (some 6) t118 fun t119=>
lLd (some false) (some 1) t119 h fun t120 _=>
n47 W R N E P x0 x1 x2 x7 x8 x51 t120 h) (
n47 W R N E P x0 x1 x2 x7 x8 x51 noA h)
def n49:N5:=fun W R N E P x0 x1 x2 x7 x8 h=>
pBin Try.prog .lss 3 true x8 (.sc (.int .i64 0)) fun t122=>
n48 W R N E P x0 x1 x2 x7 x8 t122 h
def n50:N8:=fun W R N E P x0 x1 x2 x7 x8 x9 x10 x48 h=>
aIf x48 (
n49 W R N E P x0 x1 x2 x7 x8 h) (
n43 W R N E P x0 x1 x2 x7 x9 x10 h)
def n51:N7:=fun W R N E P x0 x1 x2 x7 x8 x9 x10 h=>
pBin Try.prog .eql 3 true x9 (.sc (.int .i64 0)) fun t123=>
n50 W R N E P x0 x1 x2 x7 x8 x9 x10 t123 h
def n52:N5:=fun W R N E P x0 x1 x2 x7 x8 h=>
pFld (some 1) x7 fun t124=>
lLd (some false) (some 1) t124 h fun t125 _=>
aCall Try.prog W 54 [t125] h (fun t127 h128=>
n51 W R N E P x0 x1 x2 x7 x8 t127 (.sc (.int .i64 0)) h128) P
def n53:N4:=fun W R N E P x0 x1 x2 x7 h=>
pFld (some 1) x7 fun t129=>
lLd (some false) (some 1) t129 h fun t130 _=>
aCall Try.prog W 53 [x0,t130] h (fun t132 h133=>
n52 W R N E P x0 x1 x2 x7 t132 h133) P
def n54:N2:=fun W R _ _ P x0 x1 h=>
aCall Try.prog W 29 [x0,x1,(.sc (.int .i64 114))] h (fun t134 h135=>
R [t134] h135) P
def n55:N5:=fun W R N E P x0 x1 x2 x7 x36 h=>
aIf x36 (
n54 W R N E P x0 x1 h) (
n53 W R N E P x0 x1 x2 x7 h)
def n56:N6:=fun W R N E P x0 x1 x2 x7 x24 x35 h=>
pPick x24 x35 (.sc (.bool false)) fun t136=>
n55 W R N E P x0 x1 x2 x7 t136 h
def n57:N5:=fun W R N E P x0 x1 x2 x7 x24 h=>
aIg true x24 (
pNil x0 fun t137=>
pFld (some 3) t137 fun t138=>
lLd (some false) (some 1) t138 h fun t139 _=>
pIxA (some (7,none)) t139 x2 fun t141=>
pFld (some 0) t141 fun t142=>
lLd (some false) (some 1) t142 h fun t143 _=>
pFld (some 1) x7 fun t145=>
lLd (some false) (some 1) t145 h fun t146 _=>
pBin Try.prog .eql 9 false t143 t146 fun t148=>
n56 W R N E P x0 x1 x2 x7 x24 t148 h) (
n56 W R N E P x0 x1 x2 x7 x24 noA h)
def n58:N4:=fun W R N E P x0 x1 x2 x7 h=>
pBin Try.prog .geq 3 true x2 (.sc (.int .i64 0)) fun t149=>
n57 W R N E P x0 x1 x2 x7 t149 h
def n59:N3:=fun W R N E P x0 x1 x2 h=>
pNil x0 fun t150=>
pFld (some 0) t150 fun t151=>
lLd (some false) (some 1) t151 h fun t152 _=>
pIxA (some (6,none)) t152 x1 fun t154=>
lLd (some true) (some 6) t154 h fun t155 _=>
eAlloc (some [.string ⟨#[]⟩,.string ⟨#[]⟩,.slice none 0 0,.int .i64 0,.int .i64 0,.int .i64 0]) 6 42 h fun t157 h158=>
eStore (some 6) t157 t155 h158 W fun h159=>
n58 W R N E P x0 x1 x2 t157 h159
def n60:N3:=fun W R N E P x0 x1 x2 h=>
n59 W R N E P x0 x1 x2 h
theorem callsN {x0 x1 x2:AV} {h:AH} {M:WK} {R:RK} (hp:n60 (fun id=>M id\/h.next<=id) (retV Try.prog [.tmp 6] R) (retV Try.prog [.tmp 6] R) (fun _ _ _=>False) (fun v h=>R (.pan v) h) x0 x1 x2 h):ACalls Try.prog 51 [x0,x1,x2] h M R:=
 fin (n:=185) (pl:=[(2,⟨[(none,(fr 0 3)),(some (2,true),(fr 3 11)),(none,(fr 14 1))],false,[],[]⟩),(7,⟨[(none,(fr 0 3)),(some (2,false),(fr 3 8)),(none,(fr 11 1))],false,[],[]⟩),(9,⟨[(none,(fr 0 19))],false,[],[]⟩),(17,⟨[(none,(fr 0 9))],false,[],[]⟩),(21,⟨[(none,(fr 0 12))],false,[],[10]⟩),(29,⟨[(none,(fr 0 11))],false,[],[]⟩),(31,⟨[(none,(fr 0 3)),(some (2,true),(fr 3 11)),(none,(fr 14 1))],false,[],[]⟩)]) (rs:=[.tmp 6]) (L:=rs) (fun c=>(a3 n60 0 1 2 c)) Try.mixed Try.func51 (fun c=>
(sq (a3 n60 0 1 2 c)
(sq (a3 n59 0 1 2 c)
(sn
(sq (a4 n53 0 1 2 7 c)
(sq (a5 n52 0 1 2 7 8 c)
(sn
(sn
(sn
(sn
(sn
(sl (a0 n1 c))
(sn
(cd (a5 n6 0 1 2 10 169 c) (sq (a4 n5 0 1 2 10 c)
(sq (a3 n4 0 1 10 c)
(cd (a3 n3 0 1 181 c) (sl (a2 n2 0 1 c)) tr))) tr)
(gr (gn (a4 n9 0 1 2 10 c) (gx (a5 n8 0 1 2 10 157 c) (gl (a6 n7 0 1 2 10 157 168 c)))))))
(sq (a6 n22 0 1 2 7 9 10 c)
(bk 2 (lp [0,1,2,7,9,10,13] rs [(2,[0,1,2,10])] (a7 n21 0 1 2 7 9 10 13 c) g1_ (fun i vs h=>if i=2 then n9 c.W c.R c.N c.E c.P (vs.getD 0 noA) (vs.getD 1 noA) (vs.getD 2 noA) (vs.getD 3 noA) h else c.E i vs h) (.b (.t .o)) fun c=>
(sn
(sn
(sm (a7 n10 0 1 2 7 9 10 13 c))
(bk 3 (sq (a7 n18 0 1 2 7 9 10 13 c)
(bk 4 (lp [0,1,2,7,9,10,13,14] rs [(4,[0,1,2,7,9,10,13]),(3,[0,1,2,7,9,10,13]),(2,[0,1,2,10])] (a8 n17 0 1 2 7 9 10 13 14 c) g2_ (fun i vs h=>if i=4 then n10 c.W c.R c.N c.E c.P (vs.getD 0 noA) (vs.getD 1 noA) (vs.getD 2 noA) (vs.getD 3 noA) (vs.getD 4 noA) (vs.getD 5 noA) (vs.getD 6 noA) h else if i=3 then n10 c.W c.R c.N c.E c.P (vs.getD 0 noA) (vs.getD 1 noA) (vs.getD 2 noA) (vs.getD 3 noA) (vs.getD 4 noA) (vs.getD 5 noA) (vs.getD 6 noA) h else c.E i vs h) (.b (.b (.t .o))) fun c=>
(sn
(sn
(sm (a8 n11 0 1 2 7 9 10 13 14 c))
(bk 5 (sq (a8 n14 0 1 2 7 9 10 13 14 c)
(cd (a9 n13 0 1 2 7 9 10 13 14 151 c) (sl (a2 n12 0 1 c)) tr))))
(sq (a8 n16 0 1 2 7 9 10 13 14 c)
(cd (a9 n15 0 1 2 7 9 10 13 14 138 c) tr tr))))))))
(sq (a7 n20 0 1 2 7 9 10 13 c)
(cd (a8 n19 0 1 2 7 9 10 13 133 c) tr tr)))))))
(sq (a6 n40 0 1 2 7 9 10 c)
(bk 0 (lp [0,1,2,7,9,10,11] rs [(0,[0,1,2,7,9,10])] (a7 n39 0 1 2 7 9 10 11 c) g3_ (fun i vs h=>if i=0 then n22 c.W c.R c.N c.E c.P (vs.getD 0 noA) (vs.getD 1 noA) (vs.getD 2 noA) (vs.getD 3 noA) (vs.getD 4 noA) (vs.getD 5 noA) h else c.E i vs h) (.b (.t .o)) fun c=>
(sn
(sn
(sm (a7 n23 0 1 2 7 9 10 11 c))
(bk 1 (sq (a7 n36 0 1 2 7 9 10 11 c)
(sn
(sn
(sn
(cd (a8 n25 0 1 2 7 9 10 11 127 c) (sl (a2 n24 0 1 c)) tr)
(gr (gl (a8 n26 0 1 2 7 9 10 11 12 c))))
(sq (a8 n29 0 1 2 7 9 10 11 12 c)
(cd (a9 n28 0 1 2 7 9 10 11 12 112 c) (sl (a2 n27 0 1 c)) tr)))
(sq (a8 n35 0 1 2 7 9 10 11 12 c)
(cd (a9 n34 0 1 2 7 9 10 11 12 100 c) (sn
(sm (a7 n30 0 1 2 7 9 10 11 c))
(sq (a8 n33 0 1 2 7 9 10 11 12 c)
(cd (a8 n32 0 1 2 7 9 10 11 109 c) (sl (a0 n31 c)) tr))) tr))))))
(sq (a7 n38 0 1 2 7 9 10 11 c)
(cd (a8 n37 0 1 2 7 9 10 11 91 c) tr tr)))))))
(sq (a6 n43 0 1 2 7 9 10 c)
(cd (a7 n42 0 1 2 7 9 10 85 c) (sl (a2 n41 0 1 c)) tr)))
(sq (a7 n51 0 1 2 7 8 9 10 c)
(cd (a8 n50 0 1 2 7 8 9 10 48 c) (sn
(sm (a5 n44 0 1 2 7 8 c))
(sn
(cd (a6 n46 0 1 2 7 8 60 c) (sl (a2 n45 0 1 c)) tr)
(gr (gn (a5 n49 0 1 2 7 8 c) (gx (a6 n48 0 1 2 7 8 51 c) (gl (a7 n47 0 1 2 7 8 51 59 c))))))) tr)))))
(sn
(cd (a5 n55 0 1 2 7 36 c) (sl (a2 n54 0 1 c)) tr)
(gr (gn (a4 n58 0 1 2 7 c) (gx (a5 n57 0 1 2 7 24 c) (gl (a6 n56 0 1 2 7 24 35 c)))))))))) hp
attribute [simp] n1 n2 n3 n4 n5 n6 n7 n8 n9 n10 n11 n12 n13 n14 n15 n16 n18 n19 n20 n22 n23 n24 n25 n26 n27 n28 n29 n30 n31 n32 n33 n34 n35 n36 n37 n38 n40 n41 n42 n43 n44 n45 n46 n47 n48 n49 n50 n51 n52 n53 n54 n55 n56 n57 n58 n59 n60
end F51
namespace F52
abbrev rs:List Nat:=[8]
def n1:N0:=fun _ R _ _ _ h=>
R [(.sc (.bool true))] h
def n2:N2:=fun W R _ _ P x0 x1 h=>
aCall Try.prog W 29 [x0,x1,(.sc (.int .i64 112))] h (fun t1 h2=>
R [t1] h2) P
def n3:N3:=fun W R N E P x0 x1 x31 h=>
aIf x31 (
n2 W R N E P x0 x1 h) (
n1 W R N E P h)
def n4:N4:=fun W R N E P x0 x1 x22 x30 h=>
pPick x22 (.sc (.bool true)) x30 fun t3=>
n3 W R N E P x0 x1 t3 h
def n5:N6:=fun W R N E P x0 x1 x3 x6 x9 x22 h=>
aIg false x22 (
pFld (some 1) x6 fun t4=>
lLd (some false) (some 1) t4 h fun t5 _=>
pIxA (some (3,none)) x3 x9 fun t7=>
pFld (some 2) t7 fun t8=>
lLd (some false) (some 1) t8 h fun t9 _=>
pBin Try.prog .geq 3 false t5 t9 fun t11=>
n4 W R N E P x0 x1 x22 t11 h) (
n4 W R N E P x0 x1 x22 noA h)
def n6:N5:=fun W R N E P x0 x1 x3 x6 x9 h=>
pFld (some 1) x6 fun t12=>
lLd (some false) (some 1) t12 h fun t13 _=>
pBin Try.prog .lss 3 true t13 (.sc (.int .i64 0)) fun t15=>
n5 W R N E P x0 x1 x3 x6 x9 t15 h
def n7:N2:=fun W R _ _ P x0 x1 h=>
aCall Try.prog W 29 [x0,x1,(.sc (.int .i64 110))] h (fun t16 h17=>
R [t16] h17) P
def n8:N6:=fun W R N E P x0 x1 x3 x6 x9 x15 h=>
aIf x15 (
n7 W R N E P x0 x1 h) (
n6 W R N E P x0 x1 x3 x6 x9 h)
def n9:N5:=fun W R N E P x0 x1 x3 x6 x9 h=>
pBin Try.prog .lss 3 true x9 (.sc (.int .i64 0)) fun t18=>
n8 W R N E P x0 x1 x3 x6 x9 t18 h
def n10:N4:=fun W R N E P x0 x1 x3 x6 h=>
pFld (some 0) x6 fun t19=>
lLd (some false) (some 1) t19 h fun t20 _=>
aCall Try.prog W 35 [x3,t20] h (fun t22 h23=>
n9 W R N E P x0 x1 x3 x6 t22 h23) P
def n11:N4:=fun W R N E P x0 x1 x2 x3 h=>
eBox 2 44 x2 h fun t24 h25=>
n10 W R N E P x0 x1 x3 t24 h25
theorem callsN {x0 x1 x2 x3:AV} {h:AH} {M:WK} {R:RK} (hp:n11 (fun id=>M id\/h.next<=id) (retV Try.prog [.tmp 8] R) (retV Try.prog [.tmp 8] R) (fun _ _ _=>False) (fun v h=>R (.pan v) h) x0 x1 x2 x3 h):ACalls Try.prog 52 [x0,x1,x2,x3] h M R:=
 fin (n:=35) (pl:=[(4,⟨[(none,(fr 0 4)),(some (3,false),(fr 4 8)),(none,(fr 12 1))],false,[],[]⟩)]) (rs:=[.tmp 8]) (L:=rs) (fun c=>(a4 n11 0 1 2 3 c)) Try.mixed Try.func52 (fun c=>
(sq (a4 n11 0 1 2 3 c)
(sq (a4 n10 0 1 3 6 c)
(sn
(sn
(sl (a0 n1 c))
(sn
(cd (a3 n3 0 1 31 c) (sl (a2 n2 0 1 c)) tr)
(gr (gn (a5 n6 0 1 3 6 9 c) (gx (a6 n5 0 1 3 6 9 22 c) (gl (a4 n4 0 1 22 30 c)))))))
(sq (a5 n9 0 1 3 6 9 c)
(cd (a6 n8 0 1 3 6 9 15 c) (sl (a2 n7 0 1 c)) tr)))))) hp
attribute [simp] n1 n2 n3 n4 n5 n6 n7 n8 n9 n10 n11
end F52
namespace F53
abbrev rs:List Nat:=[4]
def n1:N0:=fun _ R _ _ _ h=>
R [(.sc (.int .i64 (-1)))] h
def n2:N3:=fun _ _ N _ _ x0 x1 x5 h=>
pBin Try.prog .add 3 true x5 (.sc (.int .i64 1)) fun t1=>
N [x0,x1,t1] h
def n3:N1:=fun _ R _ _ _ x5 h=>
R [x5] h
def n4:N4:=fun W R N E P x0 x1 x5 x24 h=>
aIf x24 (
n3 W R N E P x5 h) (
n2 W R N E P x0 x1 x5 h)
def n5:N3:=fun W R N E P x0 x1 x5 h=>
pNil x0 fun t2=>
pFld (some 3) t2 fun t3=>
lLd (some false) (some 1) t3 h fun t4 _=>
pIxA (some (7,none)) t4 x5 fun t6=>
pFld (some 0) t6 fun t7=>
lLd (some false) (some 1) t7 h fun t8 _=>
pBin Try.prog .eql 9 false t8 x1 fun t10=>
n4 W R N E P x0 x1 x5 t10 h
def n6:N4:=fun W R N E P x0 x1 x5 x12 h=>
aIf x12 (
n5 W R N E P x0 x1 x5 h) (
E 0 [] h)
def n7:N3:=fun W R N E P x0 x1 x5 h=>
pNil x0 fun t11=>
pFld (some 3) t11 fun t12=>
lLd (some false) (some 1) t12 h fun t13 _=>
(strArg t13=false)/\pLen t13 fun t15=>
pBin Try.prog .lss 3 false x5 t15 fun t16=>
n6 W R N E P x0 x1 x5 t16 h
def g1_:GK:=fun W R N E P N' vs h=>n7 W R N' (fun (i:Nat) (vs:List AV) (h:AH)=>if i=0 then n1 W R N E P h else E i vs h) P (vs.getD 0 noA) (vs.getD 1 noA) (vs.getD 2 noA) h
def n8:N3:=fun W R N E P x0 x1 x5 h=>
vLoop (g1_ W R N E P) [x0,x1,x5] h
def n9:N2:=fun W R N E P x0 x1 h=>
n8 W R N E P x0 x1 (.sc (.int .i64 0)) h
def n10:N2:=fun W R N E P x0 x1 h=>
n9 W R N E P x0 x1 h
theorem callsN {x0 x1:AV} {h:AH} {M:WK} {R:RK} (hp:n10 (fun id=>M id\/h.next<=id) (retV Try.prog [.tmp 4] R) (retV Try.prog [.tmp 4] R) (fun _ _ _=>False) (fun v h=>R (.pan v) h) x0 x1 h):ACalls Try.prog 53 [x0,x1] h M R:=
 fin (n:=26) (pl:=[]) (rs:=[.tmp 4]) (L:=rs) (fun c=>(a2 n10 0 1 c)) Try.mixed Try.func53 (fun c=>
(sq (a2 n10 0 1 c)
(sn
(sl (a0 n1 c))
(sq (a2 n9 0 1 c)
(bk 0 (lp [0,1,5] rs [(0,[])] (a3 n8 0 1 5 c) g1_ (fun i vs h=>if i=0 then n1 c.W c.R c.N c.E c.P h else c.E i vs h) (.b (.t .o)) fun c=>
(sn
(sn
(sm (a3 n2 0 1 5 c))
(bk 1 (sq (a3 n5 0 1 5 c)
(cd (a4 n4 0 1 5 24 c) (sl (a1 n3 5 c)) tr))))
(sq (a3 n7 0 1 5 c)
(cd (a4 n6 0 1 5 12 c) tr tr))))))))) hp
attribute [simp] n1 n2 n3 n4 n5 n6 n7 n9 n10
end F53
namespace F80
abbrev rs:List Nat:=[4]
def n1:N1:=fun _ R _ _ _ x4 h=>
R [x4] h
def n2:N2:=fun W R N E P x26 x30 h=>
pPick x26 (.sc (.bool true)) x30 fun t1=>
n1 W R N E P t1 h
def n3:N3:=fun W R N E P x0 x1 x26 h=>
aIg false x26 (
aCall Try.prog W 53 [x0,x1] h (fun t2 h3=>
pBin Try.prog .geq 3 true t2 (.sc (.int .i64 0)) fun t4=>
n2 W R N E P x26 t4 h3) P) (
n2 W R N E P x26 noA h)
def n4:N4:=fun W R N E P x0 x1 x17 x24 h=>
pPick x17 (.sc (.bool true)) x24 fun t5=>
n3 W R N E P x0 x1 t5 h
def n5:N3:=fun W R N E P x0 x1 x17 h=>
aIg false x17 (
pNil x0 fun t6=>
pFld (some 2) t6 fun t7=>
lLd (some false) (some 1) t7 h fun t8 _=>
aCall Try.prog W 35 [t8,x1] h (fun t10 h11=>
pBin Try.prog .geq 3 true t10 (.sc (.int .i64 0)) fun t12=>
n4 W R N E P x0 x1 x17 t12 h11) P) (
n4 W R N E P x0 x1 x17 noA h)
def n6:N4:=fun W R N E P x0 x1 x8 x15 h=>
pPick x8 (.sc (.bool true)) x15 fun t13=>
n5 W R N E P x0 x1 t13 h
def n7:N3:=fun W R N E P x0 x1 x8 h=>
aIg false x8 (
pNil x0 fun t14=>
pFld (some 1) t14 fun t15=>
lLd (some false) (some 1) t15 h fun t16 _=>
aCall Try.prog W 35 [t16,x1] h (fun t18 h19=>
pBin Try.prog .geq 3 true t18 (.sc (.int .i64 0)) fun t20=>
n6 W R N E P x0 x1 x8 t20 h19) P) (
n6 W R N E P x0 x1 x8 noA h)
def n8:N2:=fun W R N E P x0 x1 h=>
aCall Try.prog W 54 [x1] h (fun t21 h22=>
pBin Try.prog .gtr 3 true t21 (.sc (.int .i64 0)) fun t23=>
n7 W R N E P x0 x1 t23 h22) P
def n9:N2:=fun W R N E P x0 x1 h=>
n8 W R N E P x0 x1 h
theorem callsN {x0 x1:AV} {h:AH} {M:WK} {R:RK} (hp:n9 (fun id=>M id\/h.next<=id) (retV Try.prog [.tmp 4] R) (retV Try.prog [.tmp 4] R) (fun _ _ _=>False) (fun v h=>R (.pan v) h) x0 x1 h):ACalls Try.prog 80 [x0,x1] h M R:=
 fin (n:=32) (pl:=[(1,⟨[(none,(fr 0 4)),(some (3,false),(fr 4 7)),(none,(fr 11 2)),(some (12,false),(fr 13 7)),(none,(fr 20 2)),(some (21,false),(fr 22 4)),(none,(fr 26 2))],false,[],[]⟩)]) (rs:=[.tmp 4]) (L:=rs) (fun c=>(a2 n9 0 1 c)) Try.mixed Try.func80 (fun c=>
(sq (a2 n9 0 1 c)
(sn
(sm (a1 n1 4 c))
(gr (gn (a2 n8 0 1 c) (gx (a3 n7 0 1 8 c) (gn (a4 n6 0 1 8 15 c) (gx (a3 n5 0 1 17 c) (gn (a4 n4 0 1 17 24 c) (gx (a3 n3 0 1 26 c) (gl (a2 n2 26 30 c)))))))))))) hp
attribute [simp] n1 n2 n3 n4 n5 n6 n7 n8 n9
end F80
namespace F81
abbrev rs:List Nat:=[2]
def n1:N0:=fun _ R _ _ _ h=>
R [(.sc (.bool false))] h
def n2:N2:=fun _ _ N _ _ x0 x3 h=>
pBin Try.prog .add 3 true x3 (.sc (.int .i64 1)) fun t1=>
N [x0,t1] h
def n3:N3:=fun _ _ N _ _ x0 x3 x4 h=>
pBin Try.prog .add 3 true x4 (.sc (.int .i64 1)) fun t2=>
N [x0,x3,t2] h
def n4:N0:=fun _ R _ _ _ h=>
R [(.sc (.bool true))] h
def n5:N4:=fun W R N E P x0 x3 x4 x24 h=>
aIf x24 (
n4 W R N E P h) (
n3 W R N E P x0 x3 x4 h)
def n6:N3:=fun W R N E P x0 x3 x4 h=>
pIxA (some (1,none)) x0 x3 fun t3=>
lLd (some false) (some 1) t3 h fun t4 _=>
pIxA (some (1,none)) x0 x4 fun t6=>
lLd (some false) (some 1) t6 h fun t7 _=>
pBin Try.prog .eql 9 false t4 t7 fun t9=>
n5 W R N E P x0 x3 x4 t9 h
def n7:N4:=fun W R N E P x0 x3 x4 x13 h=>
aIf x13 (
n6 W R N E P x0 x3 x4 h) (
E 2 [x0,x3] h)
def n8:N3:=fun W R N E P x0 x3 x4 h=>
pBin Try.prog .lss 3 false x4 x3 fun t10=>
n7 W R N E P x0 x3 x4 t10 h
def g2_:GK:=fun W R N E P N' vs h=>n8 W R N' (fun (i:Nat) (vs:List AV) (h:AH)=>if i=2 then n2 W R N E P (vs.getD 0 noA) (vs.getD 1 noA) h else if i=1 then n2 W R N E P (vs.getD 0 noA) (vs.getD 1 noA) h else E i vs h) P (vs.getD 0 noA) (vs.getD 1 noA) (vs.getD 2 noA) h
def n9:N3:=fun W R N E P x0 x3 x4 h=>
vLoop (g2_ W R N E P) [x0,x3,x4] h
def n10:N2:=fun W R N E P x0 x3 h=>
n9 W R N E P x0 x3 (.sc (.int .i64 0)) h
def n11:N3:=fun W R N E P x0 x3 x8 h=>
aIf x8 (
n10 W R N E P x0 x3 h) (
E 0 [] h)
def n12:N2:=fun W R N E P x0 x3 h=>
(strArg x0=false)/\pLen x0 fun t11=>
pBin Try.prog .lss 3 false x3 t11 fun t12=>
n11 W R N E P x0 x3 t12 h
def g1_:GK:=fun W R N E P N' vs h=>n12 W R N' (fun (i:Nat) (vs:List AV) (h:AH)=>if i=0 then n1 W R N E P h else E i vs h) P (vs.getD 0 noA) (vs.getD 1 noA) h
def n13:N2:=fun W R N E P x0 x3 h=>
vLoop (g1_ W R N E P) [x0,x3] h
def n14:N1:=fun W R N E P x0 h=>
n13 W R N E P x0 (.sc (.int .i64 0)) h
def n15:N1:=fun W R N E P x0 h=>
n14 W R N E P x0 h
theorem callsN {x0:AV} {h:AH} {M:WK} {R:RK} (hp:n15 (fun id=>M id\/h.next<=id) (retV Try.prog [.tmp 2] R) (retV Try.prog [.tmp 2] R) (fun _ _ _=>False) (fun v h=>R (.pan v) h) x0 h):ACalls Try.prog 81 [x0] h M R:=
 fin (n:=25) (pl:=[(7,⟨[(none,(fr 0 9))],false,[],[]⟩)]) (rs:=[.tmp 2]) (L:=rs) (fun c=>(a1 n15 0 c)) Try.mixed Try.func81 (fun c=>
(sq (a1 n15 0 c)
(sn
(sl (a0 n1 c))
(sq (a1 n14 0 c)
(bk 0 (lp [0,3] rs [(0,[])] (a2 n13 0 3 c) g1_ (fun i vs h=>if i=0 then n1 c.W c.R c.N c.E c.P h else c.E i vs h) (.b (.t .o)) fun c=>
(sn
(sn
(sm (a2 n2 0 3 c))
(bk 1 (sq (a2 n10 0 3 c)
(bk 2 (lp [0,3,4] rs [(2,[0,3]),(1,[0,3]),(0,[])] (a3 n9 0 3 4 c) g2_ (fun i vs h=>if i=2 then n2 c.W c.R c.N c.E c.P (vs.getD 0 noA) (vs.getD 1 noA) h else if i=1 then n2 c.W c.R c.N c.E c.P (vs.getD 0 noA) (vs.getD 1 noA) h else c.E i vs h) (.b (.b (.t .o))) fun c=>
(sn
(sn
(sm (a3 n3 0 3 4 c))
(bk 3 (sq (a3 n6 0 3 4 c)
(cd (a4 n5 0 3 4 24 c) (sl (a0 n4 c)) tr))))
(sq (a3 n8 0 3 4 c)
(cd (a4 n7 0 3 4 13 c) tr tr))))))))
(sq (a2 n12 0 3 c)
(cd (a3 n11 0 3 8 c) tr tr))))))))) hp
attribute [simp] n1 n2 n3 n4 n5 n6 n7 n8 n10 n11 n12 n14 n15
end F81
namespace F82
abbrev rs:List Nat:=[4]
def n1:N0:=fun _ R _ _ _ h=>
R [(.sc (.int .i64 (-1)))] h
def n2:N3:=fun _ _ N _ _ x0 x1 x5 h=>
pBin Try.prog .add 3 true x5 (.sc (.int .i64 1)) fun t1=>
N [x0,x1,t1] h
def n3:N1:=fun _ R _ _ _ x5 h=>
R [x5] h
def n4:N4:=fun W R N E P x0 x1 x5 x17 h=>
aIf x17 (
n3 W R N E P x5 h) (
n2 W R N E P x0 x1 x5 h)
def n5:N3:=fun W R N E P x0 x1 x5 h=>
pIxA (some (1,none)) x0 x5 fun t2=>
lLd (some false) (some 1) t2 h fun t3 _=>
pBin Try.prog .eql 9 false t3 x1 fun t5=>
n4 W R N E P x0 x1 x5 t5 h
def n6:N4:=fun W R N E P x0 x1 x5 x9 h=>
aIf x9 (
n5 W R N E P x0 x1 x5 h) (
E 0 [] h)
def n7:N3:=fun W R N E P x0 x1 x5 h=>
(strArg x0=false)/\pLen x0 fun t6=>
pBin Try.prog .lss 3 false x5 t6 fun t7=>
n6 W R N E P x0 x1 x5 t7 h
def g1_:GK:=fun W R N E P N' vs h=>n7 W R N' (fun (i:Nat) (vs:List AV) (h:AH)=>if i=0 then n1 W R N E P h else E i vs h) P (vs.getD 0 noA) (vs.getD 1 noA) (vs.getD 2 noA) h
def n8:N3:=fun W R N E P x0 x1 x5 h=>
vLoop (g1_ W R N E P) [x0,x1,x5] h
def n9:N2:=fun W R N E P x0 x1 h=>
n8 W R N E P x0 x1 (.sc (.int .i64 0)) h
def n10:N2:=fun W R N E P x0 x1 h=>
n9 W R N E P x0 x1 h
theorem callsN {x0 x1:AV} {h:AH} {M:WK} {R:RK} (hp:n10 (fun id=>M id\/h.next<=id) (retV Try.prog [.tmp 4] R) (retV Try.prog [.tmp 4] R) (fun _ _ _=>False) (fun v h=>R (.pan v) h) x0 x1 h):ACalls Try.prog 82 [x0,x1] h M R:=
 fin (n:=19) (pl:=[]) (rs:=[.tmp 4]) (L:=rs) (fun c=>(a2 n10 0 1 c)) Try.mixed Try.func82 (fun c=>
(sq (a2 n10 0 1 c)
(sn
(sl (a0 n1 c))
(sq (a2 n9 0 1 c)
(bk 0 (lp [0,1,5] rs [(0,[])] (a3 n8 0 1 5 c) g1_ (fun i vs h=>if i=0 then n1 c.W c.R c.N c.E c.P h else c.E i vs h) (.b (.t .o)) fun c=>
(sn
(sn
(sm (a3 n2 0 1 5 c))
(bk 1 (sq (a3 n5 0 1 5 c)
(cd (a4 n4 0 1 5 17 c) (sl (a1 n3 5 c)) tr))))
(sq (a3 n7 0 1 5 c)
(cd (a4 n6 0 1 5 9 c) tr tr))))))))) hp
attribute [simp] n1 n2 n3 n4 n5 n6 n7 n9 n10
end F82
namespace F35
abbrev rs:List Nat:=[4]
def n1:N0:=fun _ R _ _ _ h=>
R [(.sc (.int .i64 (-1)))] h
def n2:N3:=fun _ _ N _ _ x0 x1 x5 h=>
pBin Try.prog .add 3 true x5 (.sc (.int .i64 1)) fun t1=>
N [x0,x1,t1] h
def n3:N1:=fun _ R _ _ _ x5 h=>
R [x5] h
def n4:N4:=fun W R N E P x0 x1 x5 x18 h=>
aIf x18 (
n3 W R N E P x5 h) (
n2 W R N E P x0 x1 x5 h)
def n5:N3:=fun W R N E P x0 x1 x5 h=>
pIxA (some (3,none)) x0 x5 fun t2=>
pFld (some 0) t2 fun t3=>
lLd (some false) (some 1) t3 h fun t4 _=>
pBin Try.prog .eql 9 false t4 x1 fun t6=>
n4 W R N E P x0 x1 x5 t6 h
def n6:N4:=fun W R N E P x0 x1 x5 x9 h=>
aIf x9 (
n5 W R N E P x0 x1 x5 h) (
E 0 [] h)
def n7:N3:=fun W R N E P x0 x1 x5 h=>
(strArg x0=false)/\pLen x0 fun t7=>
pBin Try.prog .lss 3 false x5 t7 fun t8=>
n6 W R N E P x0 x1 x5 t8 h
def g1_:GK:=fun W R N E P N' vs h=>n7 W R N' (fun (i:Nat) (vs:List AV) (h:AH)=>if i=0 then n1 W R N E P h else E i vs h) P (vs.getD 0 noA) (vs.getD 1 noA) (vs.getD 2 noA) h
def n8:N3:=fun W R N E P x0 x1 x5 h=>
vLoop (g1_ W R N E P) [x0,x1,x5] h
def n9:N2:=fun W R N E P x0 x1 h=>
n8 W R N E P x0 x1 (.sc (.int .i64 0)) h
def n10:N2:=fun W R N E P x0 x1 h=>
n9 W R N E P x0 x1 h
theorem callsN {x0 x1:AV} {h:AH} {M:WK} {R:RK} (hp:n10 (fun id=>M id\/h.next<=id) (retV Try.prog [.tmp 4] R) (retV Try.prog [.tmp 4] R) (fun _ _ _=>False) (fun v h=>R (.pan v) h) x0 x1 h):ACalls Try.prog 35 [x0,x1] h M R:=
 fin (n:=20) (pl:=[]) (rs:=[.tmp 4]) (L:=rs) (fun c=>(a2 n10 0 1 c)) Try.mixed Try.func35 (fun c=>
(sq (a2 n10 0 1 c)
(sn
(sl (a0 n1 c))
(sq (a2 n9 0 1 c)
(bk 0 (lp [0,1,5] rs [(0,[])] (a3 n8 0 1 5 c) g1_ (fun i vs h=>if i=0 then n1 c.W c.R c.N c.E c.P h else c.E i vs h) (.b (.t .o)) fun c=>
(sn
(sn
(sm (a3 n2 0 1 5 c))
(bk 1 (sq (a3 n5 0 1 5 c)
(cd (a4 n4 0 1 5 18 c) (sl (a1 n3 5 c)) tr))))
(sq (a3 n7 0 1 5 c)
(cd (a4 n6 0 1 5 9 c) tr tr))))))))) hp
attribute [simp] n1 n2 n3 n4 n5 n6 n7 n9 n10
end F35
end Go.Proofs.Ytjehibknlmehmaa
namespace Go.Proofs.Ytjehibknlmehmaa
open Go.Ab
namespace F17
abbrev rs:List Nat:=[]
def n1:N5:=fun _ _ N _ _ x0 x2 x3 x4 x10 h=>
pNil x0 fun t1=>
pFld (some 0) t1 fun t2=>
lLd (some false) (some 1) t2 h fun t3 _=>
pIxA (some (6,none)) t3 x10 fun t5=>
pFld (some 4) t5 fun t6=>
lLd (some false) (some 1) t6 h fun t7 _=>
pBin Try.prog .add 3 true (.sc (.int .i64 1)) t7 fun t9=>
pBin Try.prog .add 3 false x10 t9 fun t10=>
N [x0,x2,x3,x4,t10] h
def n2:N8:=fun W R N E P x0 x2 x3 x4 x10 x11 x12 x13 h=>
pFld (some 1) x11 fun t11=>
lLd (some false) (some 1) t11 h fun t12 _=>
lLd (some true) (some 7) x12 h fun t14 _=>
pFld (some 5) x11 fun t16=>
lLd (some false) (some 1) t16 h fun t17 _=>
aCall Try.prog W 33 [x0,t12,x13,t14,t17] h (fun t19 h20=>
n1 W R N E P x0 x2 x3 x4 x10 h20) P
def n3:N9:=fun _ _ N _ _ x0 x2 x3 x4 x10 x11 x12 x13 x14 h=>
pBin Try.prog .add 3 true x14 (.sc (.int .i64 1)) fun t21=>
N [x0,x2,x3,x4,x10,x11,x12,x13,t21] h
def n4:N9:=fun W R N E P x0 x2 x3 x4 x10 x11 x12 x13 x14 h=>
pFld (some 2) x11 fun t22=>
lLd (some false) (some 1) t22 h fun t23 _=>
pIxA (some (2,none)) t23 x14 fun t25=>
lLd (some true) (some 2) t25 h fun t26 _=>
pNil x0 fun t28=>
pFld (some 1) t28 fun t29=>
lLd (some false) (some 1) t29 h fun t30 _=>
aCall Try.prog noW 32 [x0,t26,t30] h (fun t32 h33=>
eBSl (some (1,3,[.int .i64 0])) 1 [(0,t32)] h33 fun t34 h35=>
eApp (some (1,8,3)) x13 t34 h35 W fun t36 h37=>
n3 W R N E P x0 x2 x3 x4 x10 x11 x12 t36 x14 h37) P
def n5:N10:=fun W R N E P x0 x2 x3 x4 x10 x11 x12 x13 x14 x66 h=>
aIf x66 (
n4 W R N E P x0 x2 x3 x4 x10 x11 x12 x13 x14 h) (
E 3 [x0,x2,x3,x4,x10,x11,x12,x13] h)
def n6:N9:=fun W R N E P x0 x2 x3 x4 x10 x11 x12 x13 x14 h=>
pFld (some 2) x11 fun t38=>
lLd (some false) (some 1) t38 h fun t39 _=>
(strArg t39=false)/\pLen t39 fun t41=>
pBin Try.prog .lss 3 false x14 t41 fun t42=>
n5 W R N E P x0 x2 x3 x4 x10 x11 x12 x13 x14 t42 h
def g2_:GK:=fun W R N E P N' vs h=>n6 W R N' (fun (i:Nat) (vs:List AV) (h:AH)=>if i=3 then n2 W R N E P (vs.getD 0 noA) (vs.getD 1 noA) (vs.getD 2 noA) (vs.getD 3 noA) (vs.getD 4 noA) (vs.getD 5 noA) (vs.getD 6 noA) (vs.getD 7 noA) h else if i=2 then n1 W R N E P (vs.getD 0 noA) (vs.getD 1 noA) (vs.getD 2 noA) (vs.getD 3 noA) (vs.getD 4 noA) h else if i=1 then n1 W R N E P (vs.getD 0 noA) (vs.getD 1 noA) (vs.getD 2 noA) (vs.getD 3 noA) (vs.getD 4 noA) h else E i vs h) P (vs.getD 0 noA) (vs.getD 1 noA) (vs.getD 2 noA) (vs.getD 3 noA) (vs.getD 4 noA) (vs.getD 5 noA) (vs.getD 6 noA) (vs.getD 7 noA) (vs.getD 8 noA) h
def n7:N9:=fun W R N E P x0 x2 x3 x4 x10 x11 x12 x13 x14 h=>
vLoop (g2_ W R N E P) [x0,x2,x3,x4,x10,x11,x12,x13,x14] h
def n8:N8:=fun W R N E P x0 x2 x3 x4 x10 x11 x12 x13 h=>
n7 W R N E P x0 x2 x3 x4 x10 x11 x12 x13 (.sc (.int .i64 0)) h
def n9:N7:=fun W R N E P x0 x2 x3 x4 x10 x11 x12 h=>
pFld (some 2) x11 fun t43=>
lLd (some false) (some 1) t43 h fun t44 _=>
(strArg t44=false)/\pLen t44 fun t46=>
eMk (some (1,8,3,[.int .i64 0])) (.sc (.int .i64 0)) t46 h fun t47 h48=>
n8 W R N E P x0 x2 x3 x4 x10 x11 x12 t47 h48
def n10:N7:=fun W R N E P x0 x2 x3 x4 x10 x11 x12 h=>
lLd (some true) (some 7) x12 h fun t49 _=>
pFld (some 5) x11 fun t51=>
lLd (some false) (some 1) t51 h fun t52 _=>
aCall Try.prog W 34 [x0,t49,t52] h (fun t54 h55=>
n1 W R N E P x0 x2 x3 x4 x10 h55) P
def n11:N7:=fun W R N E P x0 x2 x3 x4 x10 x11 x12 h=>
pFld (some 2) x11 fun t56=>
lLd (some false) (some 1) t56 h fun t57 _=>
pIxA (some (2,none)) t57 (.sc (.int .i64 1)) fun t59=>
lLd (some true) (some 2) t59 h fun t60 _=>
pNil x0 fun t62=>
pFld (some 2) t62 fun t63=>
lLd (some false) (some 1) t63 h fun t64 _=>
aCall Try.prog noW 32 [x0,t60,t64] h (fun t66 h67=>
pFld (some 3) x12 fun t68=>
eStore (some 1) t68 t66 h67 W fun h69=>
n10 W R N E P x0 x2 x3 x4 x10 x11 x12 h69) P
def n12:N7:=fun W R N E P x0 x2 x3 x4 x10 x11 x12 h=>
pFld (some 2) x11 fun t70=>
lLd (some false) (some 1) t70 h fun t71 _=>
pIxA (some (2,none)) t71 (.sc (.int .i64 0)) fun t73=>
lLd (some true) (some 2) t73 h fun t74 _=>
pNil x0 fun t76=>
pFld (some 1) t76 fun t77=>
lLd (some false) (some 1) t77 h fun t78 _=>
aCall Try.prog noW 32 [x0,t74,t78] h (fun t80 h81=>
eBSl (some (1,3,[.int .i64 0])) 1 [(0,t80)] h81 fun t82 h83=>
pFld (some 2) x12 fun t84=>
eStore (some 1) t84 t82 h83 W fun h85=>
n11 W R N E P x0 x2 x3 x4 x10 x11 x12 h85) P
def n13:N7:=fun W R N E P x0 x2 x3 x4 x10 x11 x12 h=>
pFld (some 0) x12 fun t86=>
eStore (some 1) t86 (.sc (.int .i64 2)) h W fun h87=>
n12 W R N E P x0 x2 x3 x4 x10 x11 x12 h87
def n14:N7:=fun W R N E P x0 x2 x3 x4 x10 x11 x12 h=>
lLd (some true) (some 7) x12 h fun t88 _=>
pFld (some 5) x11 fun t90=>
lLd (some false) (some 1) t90 h fun t91 _=>
aCall Try.prog W 34 [x0,t88,t91] h (fun t93 h94=>
n1 W R N E P x0 x2 x3 x4 x10 h94) P
def n15:N7:=fun W R N E P x0 x2 x3 x4 x10 x11 x12 h=>
pFld (some 2) x11 fun t95=>
lLd (some false) (some 1) t95 h fun t96 _=>
pIxA (some (2,none)) t96 (.sc (.int .i64 0)) fun t98=>
lLd (some true) (some 2) t98 h fun t99 _=>
pNil x0 fun t101=>
pFld (some 1) t101 fun t102=>
lLd (some false) (some 1) t102 h fun t103 _=>
aCall Try.prog noW 32 [x0,t99,t103] h (fun t105 h106=>
eBSl (some (1,3,[.int .i64 0])) 1 [(0,t105)] h106 fun t107 h108=>
pFld (some 2) x12 fun t109=>
eStore (some 1) t109 t107 h108 W fun h110=>
n14 W R N E P x0 x2 x3 x4 x10 x11 x12 h110) P
def n16:N7:=fun W R N E P x0 x2 x3 x4 x10 x11 x12 h=>
pFld (some 0) x12 fun t111=>
eStore (some 1) t111 (.sc (.int .i64 3)) h W fun h112=>
n15 W R N E P x0 x2 x3 x4 x10 x11 x12 h112
def n17:N7:=fun _ _ N _ _ x0 x2 x3 x4 x10 x11 x15 h=>
pBin Try.prog .add 3 true x15 (.sc (.int .i64 1)) fun t113=>
N [x0,x2,x3,x4,x10,x11,t113] h
def n18:N8:=fun W R N E P x0 x2 x3 x4 x10 x11 x15 x179 h=>
aIf x179 (
E 5 [x0,x2,x3,x4,x10] h) (
n17 W R N E P x0 x2 x3 x4 x10 x11 x15 h)
def n19:N8:=fun W R N E P x0 x2 x3 x4 x10 x11 x15 x16 h=>
pNil x0 fun t114=>
pFld (some 7) t114 fun t115=>
lLd (some false) (some 1) t115 h fun t116 _=>
(strArg t116=false)/\pLen t116 fun t118=>
pBin Try.prog .eql 3 false t118 x16 fun t119=>
n18 W R N E P x0 x2 x3 x4 x10 x11 x15 t119 h
def n20:N8:=fun W R N E P x0 x2 x3 x4 x10 x11 x15 x16 h=>
pBin Try.prog .add 3 true x10 (.sc (.int .i64 1)) fun t120=>
pBin Try.prog .add 3 true x10 (.sc (.int .i64 1)) fun t121=>
pFld (some 4) x11 fun t122=>
lLd (some false) (some 1) t122 h fun t123 _=>
pBin Try.prog .add 3 false t121 t123 fun t125=>
aCall Try.prog W 17 [x0,t120,t125,x3,x4] h (fun t126 h127=>
n19 W R N E P x0 x2 x3 x4 x10 x11 x15 x16 h127) P
def n21:N7:=fun W R N E P x0 x2 x3 x4 x10 x11 x15 h=>
pNil x0 fun t128=>
pFld (some 7) t128 fun t129=>
lLd (some false) (some 1) t129 h fun t130 _=>
(strArg t130=false)/\pLen t130 fun t132=>
n20 W R N E P x0 x2 x3 x4 x10 x11 x15 t132 h
def n22:N8:=fun W R N E P x0 x2 x3 x4 x10 x11 x15 x154 h=>
aIf x154 (
n21 W R N E P x0 x2 x3 x4 x10 x11 x15 h) (
E 5 [x0,x2,x3,x4,x10] h)
def n23:N9:=fun W R N E P x0 x2 x3 x4 x10 x11 x15 x148 x153 h=>
pPick x148 x153 (.sc (.bool false)) fun t133=>
n22 W R N E P x0 x2 x3 x4 x10 x11 x15 t133 h
def n24:N8:=fun W R N E P x0 x2 x3 x4 x10 x11 x15 x148 h=>
aIg true x148 (
pNil x0 fun t134=>
pFld (some 6) t134 fun t135=>
lLd (some false) (some 1) t135 h fun t136 _=>
pUn .not t136 fun t138=>
n23 W R N E P x0 x2 x3 x4 x10 x11 x15 x148 t138 h) (
n23 W R N E P x0 x2 x3 x4 x10 x11 x15 x148 noA h)
def n25:N7:=fun W R N E P x0 x2 x3 x4 x10 x11 x15 h=>
pFld (some 3) x11 fun t139=>
lLd (some false) (some 1) t139 h fun t140 _=>
pBin Try.prog .lss 3 false x15 t140 fun t142=>
n24 W R N E P x0 x2 x3 x4 x10 x11 x15 t142 h
def g3_:GK:=fun W R N E P N' vs h=>n25 W R N' (fun (i:Nat) (vs:List AV) (h:AH)=>if i=5 then n1 W R N E P (vs.getD 0 noA) (vs.getD 1 noA) (vs.getD 2 noA) (vs.getD 3 noA) (vs.getD 4 noA) h else if i=2 then n1 W R N E P (vs.getD 0 noA) (vs.getD 1 noA) (vs.getD 2 noA) (vs.getD 3 noA) (vs.getD 4 noA) h else if i=1 then n1 W R N E P (vs.getD 0 noA) (vs.getD 1 noA) (vs.getD 2 noA) (vs.getD 3 noA) (vs.getD 4 noA) h else E i vs h) P (vs.getD 0 noA) (vs.getD 1 noA) (vs.getD 2 noA) (vs.getD 3 noA) (vs.getD 4 noA) (vs.getD 5 noA) (vs.getD 6 noA) h
def n26:N7:=fun W R N E P x0 x2 x3 x4 x10 x11 x15 h=>
vLoop (g3_ W R N E P) [x0,x2,x3,x4,x10,x11,x15] h
def n27:N6:=fun W R N E P x0 x2 x3 x4 x10 x11 h=>
n26 W R N E P x0 x2 x3 x4 x10 x11 (.sc (.int .i64 0)) h
def n28:N9:=fun W R N E P x0 x2 x3 x4 x10 x11 x18 x19 x232 h=>
aIf x232 (
pBin Try.prog .add 3 true x10 (.sc (.int .i64 1)) fun t143=>
pBin Try.prog .add 3 true x10 (.sc (.int .i64 1)) fun t144=>
pFld (some 4) x11 fun t145=>
lLd (some false) (some 1) t145 h fun t146 _=>
pBin Try.prog .add 3 false t144 t146 fun t148=>
pBin Try.prog .or 47 false x3 x18 fun t149=>
pBin Try.prog .or 47 false x4 x19 fun t150=>
aCall Try.prog W 17 [x0,t143,t148,t149,t150] h (fun t151 h152=>
n1 W R N E P x0 x2 x3 x4 x10 h152) P) (
n1 W R N E P x0 x2 x3 x4 x10 h)
def n29:N10:=fun W R N E P x0 x2 x3 x4 x10 x11 x18 x19 x226 x231 h=>
pPick x226 (.sc (.bool true)) x231 fun t153=>
n28 W R N E P x0 x2 x3 x4 x10 x11 x18 x19 t153 h
def n30:N9:=fun W R N E P x0 x2 x3 x4 x10 x11 x18 x19 x226 h=>
aIg false x226 (
pBin Try.prog .and 47 false x4 x18 fun t154=>
pBin Try.prog .eql 47 false t154 x19 fun t155=>
n29 W R N E P x0 x2 x3 x4 x10 x11 x18 x19 x226 t155 h) (
n29 W R N E P x0 x2 x3 x4 x10 x11 x18 x19 x226 noA h)
def n31:N8:=fun W R N E P x0 x2 x3 x4 x10 x11 x18 x19 h=>
pBin Try.prog .and 47 false x3 x18 fun t156=>
pBin Try.prog .eql 47 true t156 (.sc (.int .u64 0)) fun t157=>
n30 W R N E P x0 x2 x3 x4 x10 x11 x18 x19 t157 h
def n32:N8:=fun W R N E P x0 x2 x3 x4 x10 x11 x17 x18 h=>
pFld (some 3) x11 fun t158=>
lLd (some false) (some 1) t158 h fun t159 _=>
pCnv (some .u64) t159 fun t161=>
pNil x0 fun t162=>
pFld (some 2) t162 fun t163=>
lLd (some false) (some 1) t163 h fun t164 _=>
pIxA (some (3,none)) t164 x17 fun t166=>
pFld (some 1) t166 fun t167=>
lLd (some false) (some 1) t167 h fun t168 _=>
pBin Try.prog .shl 47 false t161 t168 fun t170=>
n31 W R N E P x0 x2 x3 x4 x10 x11 x18 t170 h
def n33:N7:=fun W R N E P x0 x2 x3 x4 x10 x11 x17 h=>
pNil x0 fun t171=>
pFld (some 2) t171 fun t172=>
lLd (some false) (some 1) t172 h fun t173 _=>
pIxA (some (3,none)) t173 x17 fun t175=>
pFld (some 2) t175 fun t176=>
lLd (some false) (some 1) t176 h fun t177 _=>
pBin Try.prog .sub 3 true t177 (.sc (.int .i64 1)) fun t179=>
pBin Try.prog .shl 47 true (.sc (.int .u64 1)) t179 fun t180=>
pBin Try.prog .mul 47 true t180 (.sc (.int .u64 2)) fun t181=>
pBin Try.prog .sub 47 true t181 (.sc (.int .u64 1)) fun t182=>
pNil x0 fun t183=>
pFld (some 2) t183 fun t184=>
lLd (some false) (some 1) t184 h fun t185 _=>
pIxA (some (3,none)) t185 x17 fun t187=>
pFld (some 1) t187 fun t188=>
lLd (some false) (some 1) t188 h fun t189 _=>
pBin Try.prog .shl 47 false t182 t189 fun t191=>
n32 W R N E P x0 x2 x3 x4 x10 x11 x17 t191 h
def n34:N6:=fun W R N E P x0 x2 x3 x4 x10 x11 h=>
pNil x0 fun t192=>
pFld (some 2) t192 fun t193=>
lLd (some false) (some 1) t193 h fun t194 _=>
pFld (some 1) x11 fun t196=>
lLd (some false) (some 1) t196 h fun t197 _=>
aCall Try.prog noW 35 [t194,t197] h (fun t199 h200=>
n33 W R N E P x0 x2 x3 x4 x10 x11 t199 h200) P
def n35:N7:=fun W R N E P x0 x2 x3 x4 x10 x11 x180 h=>
aIf x180 (
n34 W R N E P x0 x2 x3 x4 x10 x11 h) (
n1 W R N E P x0 x2 x3 x4 x10 h)
def n36:N7:=fun W R N E P x0 x2 x3 x4 x10 x11 x55 h=>
pBin Try.prog .eql 9 true x55 (.sc (.string ⟨#[105,102]⟩)) fun t201=>
n35 W R N E P x0 x2 x3 x4 x10 x11 t201 h
def n37:N8:=fun W R N E P x0 x2 x3 x4 x10 x11 x55 x142 h=>
aIf x142 (
n27 W R N E P x0 x2 x3 x4 x10 x11 h) (
n36 W R N E P x0 x2 x3 x4 x10 x11 x55 h)
def n38:N7:=fun W R N E P x0 x2 x3 x4 x10 x11 x55 h=>
pBin Try.prog .eql 9 true x55 (.sc (.string ⟨#[114,101,112,101,97,116]⟩)) fun t202=>
n37 W R N E P x0 x2 x3 x4 x10 x11 x55 t202 h
def n39:N9:=fun W R N E P x0 x2 x3 x4 x10 x11 x12 x55 x122 h=>
aIf x122 (
n16 W R N E P x0 x2 x3 x4 x10 x11 x12 h) (
n38 W R N E P x0 x2 x3 x4 x10 x11 x55 h)
def n40:N8:=fun W R N E P x0 x2 x3 x4 x10 x11 x12 x55 h=>
pBin Try.prog .eql 9 true x55 (.sc (.string ⟨#[114,101,115,101,116]⟩)) fun t203=>
n39 W R N E P x0 x2 x3 x4 x10 x11 x12 x55 t203 h
def n41:N9:=fun W R N E P x0 x2 x3 x4 x10 x11 x12 x55 x91 h=>
aIf x91 (
n13 W R N E P x0 x2 x3 x4 x10 x11 x12 h) (
n40 W R N E P x0 x2 x3 x4 x10 x11 x12 x55 h)
def n42:N8:=fun W R N E P x0 x2 x3 x4 x10 x11 x12 x55 h=>
pBin Try.prog .eql 9 true x55 (.sc (.string ⟨#[109,101,97,115,117,114,101]⟩)) fun t204=>
n41 W R N E P x0 x2 x3 x4 x10 x11 x12 x55 t204 h
def n43:N9:=fun W R N E P x0 x2 x3 x4 x10 x11 x12 x55 x56 h=>
aIf x56 (
n9 W R N E P x0 x2 x3 x4 x10 x11 x12 h) (
n42 W R N E P x0 x2 x3 x4 x10 x11 x12 x55 h)
def n44:N8:=fun W R N E P x0 x2 x3 x4 x10 x11 x12 x55 h=>
pBin Try.prog .eql 9 true x55 (.sc (.string ⟨#[117,115,101]⟩)) fun t205=>
n43 W R N E P x0 x2 x3 x4 x10 x11 x12 x55 t205 h
def n45:N7:=fun W R N E P x0 x2 x3 x4 x10 x11 x12 h=>
pFld (some 0) x11 fun t206=>
lLd (some false) (some 1) t206 h fun t207 _=>
n44 W R N E P x0 x2 x3 x4 x10 x11 x12 t207 h
def n46:N6:=fun W R N E P x0 x2 x3 x4 x10 x11 h=>
pBin Try.prog .neq 47 true x3 (.sc (.int .u64 0)) fun t209=>
pBld (some ([.int .i64 0,.string ⟨#[]⟩,.slice none 0 0,.int .i64 0,.bool false,.int .u64 0,.int .u64 0],.inl [(0,1),(1,1),(2,1),(3,1),(4,1),(5,1),(6,1)])) [(4,t209),(5,x3),(6,x4)] fun t210=>
eAlloc (some [.int .i64 0,.string ⟨#[]⟩,.slice none 0 0,.int .i64 0,.bool false,.int .u64 0,.int .u64 0]) 7 49 h fun t211 h212=>
eStore (some 7) t211 t210 h212 W fun h213=>
n45 W R N E P x0 x2 x3 x4 x10 x11 t211 h213
def n47:N5:=fun W R N E P x0 x2 x3 x4 x10 h=>
pNil x0 fun t214=>
pFld (some 0) t214 fun t215=>
lLd (some false) (some 1) t215 h fun t216 _=>
pIxA (some (6,none)) t216 x10 fun t218=>
lLd (some true) (some 6) t218 h fun t219 _=>
eAlloc (some [.string ⟨#[]⟩,.string ⟨#[]⟩,.slice none 0 0,.int .i64 0,.int .i64 0,.int .i64 0]) 6 42 h fun t221 h222=>
eStore (some 6) t221 t219 h222 W fun h223=>
n46 W R N E P x0 x2 x3 x4 x10 t221 h223
def n48:N6:=fun W R N E P x0 x2 x3 x4 x10 x30 h=>
aIf x30 (
n47 W R N E P x0 x2 x3 x4 x10 h) (
E 0 [] h)
def n49:N7:=fun W R N E P x0 x2 x3 x4 x10 x24 x29 h=>
pPick x24 x29 (.sc (.bool false)) fun t224=>
n48 W R N E P x0 x2 x3 x4 x10 t224 h
def n50:N6:=fun W R N E P x0 x2 x3 x4 x10 x24 h=>
aIg true x24 (
pNil x0 fun t225=>
pFld (some 6) t225 fun t226=>
lLd (some false) (some 1) t226 h fun t227 _=>
pUn .not t227 fun t229=>
n49 W R N E P x0 x2 x3 x4 x10 x24 t229 h) (
n49 W R N E P x0 x2 x3 x4 x10 x24 noA h)
def n51:N5:=fun W R N E P x0 x2 x3 x4 x10 h=>
pBin Try.prog .lss 3 false x10 x2 fun t230=>
n50 W R N E P x0 x2 x3 x4 x10 t230 h
def g1_:GK:=fun W R N E P N' vs h=>n51 W R N' (fun (i:Nat) (vs:List AV) (h:AH)=>if i=0 then N vs h else E i vs h) P (vs.getD 0 noA) (vs.getD 1 noA) (vs.getD 2 noA) (vs.getD 3 noA) (vs.getD 4 noA) h
def n52:N5:=fun W R N E P x0 x2 x3 x4 x10 h=>
vLoop (g1_ W R N E P) [x0,x2,x3,x4,x10] h
def n53:N5:=fun W R N E P x0 x1 x2 x3 x4 h=>
n52 W R N E P x0 x2 x3 x4 x1 h
theorem callsN {x0 x1 x2 x3 x4:AV} {h:AH} {M:WK} {R:RK} (hp:n53 (fun id=>M id\/h.next<=id) (retV Try.prog [] R) (retV Try.prog [] R) (fun _ _ _=>False) (fun v h=>R (.pan v) h) x0 x1 x2 x3 x4 h):ACalls Try.prog 17 [x0,x1,x2,x3,x4] h M R:=
 fin (n:=248) (pl:=[(1,⟨[(none,(fr 0 4)),(some (3,true),(fr 4 5)),(none,(fr 9 1))],false,[],[]⟩),(11,⟨[(none,(fr 0 15))],false,[],[11]⟩),(15,⟨[(none,(fr 0 13))],false,[],[9]⟩),(16,⟨[(none,(fr 0 12))],false,[],[9]⟩),(20,⟨[(none,(fr 0 13))],false,[],[9]⟩),(24,⟨[(none,(fr 0 5)),(some (4,true),(fr 5 5)),(none,(fr 10 1))],false,[],[]⟩),(30,⟨[(none,(fr 0 8))],false,[],[6]⟩),(31,⟨[(none,(fr 0 22))],false,[],[]⟩),(32,⟨[(none,(fr 0 13))],false,[],[]⟩),(33,⟨[(none,(fr 0 5)),(some (4,false),(fr 5 5)),(none,(fr 10 1))],false,[],[]⟩)]) (rs:=[]) (L:=rs) (fun c=>(a5 n53 0 1 2 3 4 c)) Try.mixed Try.func17 (fun c=>
(sq (a5 n53 0 1 2 3 4 c)
(bk 0 (lp [0,2,3,4,10] rs [(0,[])] (a5 n52 0 2 3 4 10 c) g1_ (fun i vs h=>if i=0 then c.N vs h else c.E i vs h) (.b .o) fun c=>
(sn
(sn
(sm (a5 n1 0 2 3 4 10 c))
(bk 1 (sq (a5 n47 0 2 3 4 10 c)
(sq (a6 n46 0 2 3 4 10 11 c)
(sq (a7 n45 0 2 3 4 10 11 12 c)
(bk 2 (sq (a8 n44 0 2 3 4 10 11 12 55 c)
(cd (a9 n43 0 2 3 4 10 11 12 55 56 c) (sq (a7 n9 0 2 3 4 10 11 12 c)
(sn
(sm (a8 n2 0 2 3 4 10 11 12 13 c))
(sq (a8 n8 0 2 3 4 10 11 12 13 c)
(bk 3 (lp [0,2,3,4,10,11,12,13,14] rs [(3,[0,2,3,4,10,11,12,13]),(2,[0,2,3,4,10]),(1,[0,2,3,4,10]),(0,[])] (a9 n7 0 2 3 4 10 11 12 13 14 c) g2_ (fun i vs h=>if i=3 then n2 c.W c.R c.N c.E c.P (vs.getD 0 noA) (vs.getD 1 noA) (vs.getD 2 noA) (vs.getD 3 noA) (vs.getD 4 noA) (vs.getD 5 noA) (vs.getD 6 noA) (vs.getD 7 noA) h else if i=2 then n1 c.W c.R c.N c.E c.P (vs.getD 0 noA) (vs.getD 1 noA) (vs.getD 2 noA) (vs.getD 3 noA) (vs.getD 4 noA) h else if i=1 then n1 c.W c.R c.N c.E c.P (vs.getD 0 noA) (vs.getD 1 noA) (vs.getD 2 noA) (vs.getD 3 noA) (vs.getD 4 noA) h else c.E i vs h) (.b (.t (.b (.b (.t .o))))) fun c=>
(sn
(sn
(sm (a9 n3 0 2 3 4 10 11 12 13 14 c))
(bk 4 (gr (gl (a9 n4 0 2 3 4 10 11 12 13 14 c)))))
(sq (a9 n6 0 2 3 4 10 11 12 13 14 c)
(cd (a10 n5 0 2 3 4 10 11 12 13 14 66 c) tr tr)))))))) (sq (a8 n42 0 2 3 4 10 11 12 55 c)
(cd (a9 n41 0 2 3 4 10 11 12 55 91 c) (sq (a7 n13 0 2 3 4 10 11 12 c)
(sn
(sn
(sm (a7 n10 0 2 3 4 10 11 12 c))
(gr (gl (a7 n11 0 2 3 4 10 11 12 c))))
(gr (gl (a7 n12 0 2 3 4 10 11 12 c))))) (sq (a8 n40 0 2 3 4 10 11 12 55 c)
(cd (a9 n39 0 2 3 4 10 11 12 55 122 c) (sq (a7 n16 0 2 3 4 10 11 12 c)
(sn
(sm (a7 n14 0 2 3 4 10 11 12 c))
(gr (gl (a7 n15 0 2 3 4 10 11 12 c))))) (sq (a7 n38 0 2 3 4 10 11 55 c)
(cd (a8 n37 0 2 3 4 10 11 55 142 c) (sq (a6 n27 0 2 3 4 10 11 c)
(bk 5 (lp [0,2,3,4,10,11,15] rs [(5,[0,2,3,4,10]),(2,[0,2,3,4,10]),(1,[0,2,3,4,10]),(0,[])] (a7 n26 0 2 3 4 10 11 15 c) g3_ (fun i vs h=>if i=5 then n1 c.W c.R c.N c.E c.P (vs.getD 0 noA) (vs.getD 1 noA) (vs.getD 2 noA) (vs.getD 3 noA) (vs.getD 4 noA) h else if i=2 then n1 c.W c.R c.N c.E c.P (vs.getD 0 noA) (vs.getD 1 noA) (vs.getD 2 noA) (vs.getD 3 noA) (vs.getD 4 noA) h else if i=1 then n1 c.W c.R c.N c.E c.P (vs.getD 0 noA) (vs.getD 1 noA) (vs.getD 2 noA) (vs.getD 3 noA) (vs.getD 4 noA) h else c.E i vs h) (.b (.b (.b (.t .o)))) fun c=>
(sn
(sn
(sm (a7 n17 0 2 3 4 10 11 15 c))
(bk 6 (sq (a7 n21 0 2 3 4 10 11 15 c)
(sq (a8 n20 0 2 3 4 10 11 15 16 c)
(sq (a8 n19 0 2 3 4 10 11 15 16 c)
(cd (a8 n18 0 2 3 4 10 11 15 179 c) tr tr))))))
(sn
(cd (a8 n22 0 2 3 4 10 11 15 154 c) tr tr)
(gr (gn (a7 n25 0 2 3 4 10 11 15 c) (gx (a8 n24 0 2 3 4 10 11 15 148 c) (gl (a9 n23 0 2 3 4 10 11 15 148 153 c)))))))))) (sq (a7 n36 0 2 3 4 10 11 55 c)
(cd (a7 n35 0 2 3 4 10 11 180 c) (sn
(sq (a7 n33 0 2 3 4 10 11 17 c)
(sq (a8 n32 0 2 3 4 10 11 17 18 c)
(sn
(cd (a9 n28 0 2 3 4 10 11 18 19 232 c) tr tr)
(gr (gn (a8 n31 0 2 3 4 10 11 18 19 c) (gx (a9 n30 0 2 3 4 10 11 18 19 226 c) (gl (a10 n29 0 2 3 4 10 11 18 19 226 231 c))))))))
(gr (gl (a6 n34 0 2 3 4 10 11 c)))) tr))))))))))))))))
(sn
(cd (a6 n48 0 2 3 4 10 30 c) tr tr)
(gr (gn (a5 n51 0 2 3 4 10 c) (gx (a6 n50 0 2 3 4 10 24 c) (gl (a7 n49 0 2 3 4 10 24 29 c))))))))))) hp
attribute [simp] n1 n2 n3 n4 n5 n6 n8 n9 n10 n11 n12 n13 n14 n15 n16 n17 n18 n19 n20 n21 n22 n23 n24 n25 n27 n28 n29 n30 n31 n32 n33 n34 n35 n36 n37 n38 n39 n40 n41 n42 n43 n44 n45 n46 n47 n48 n49 n50 n51 n53
end F17
namespace F31
abbrev rs:List Nat:=[6]
def n1:N1:=fun _ R _ _ _ x7 h=>
R [x7] h
def n2:N4:=fun _ _ N _ _ x0 x2 x7 x8 h=>
pNil x0 fun t1=>
pFld (some 0) t1 fun t2=>
lLd (some false) (some 1) t2 h fun t3 _=>
pIxA (some (6,none)) t3 x8 fun t5=>
pFld (some 4) t5 fun t6=>
lLd (some false) (some 1) t6 h fun t7 _=>
pBin Try.prog .add 3 true (.sc (.int .i64 1)) t7 fun t9=>
pBin Try.prog .add 3 false x8 t9 fun t10=>
N [x0,x2,x7,t10] h
def n3:N5:=fun W R N E P x0 x2 x7 x8 x10 h=>
pBin Try.prog .add 3 false x7 x10 fun t11=>
pMM true t11 (.sc (.int .i64 4097)) fun t12=>
n2 W R N E P x0 x2 t12 x8 h
def n4:N7:=fun W R N E P x0 x2 x7 x8 x9 x10 x52 h=>
aIf x52 (
n3 W R N E P x0 x2 x7 x8 (.sc (.int .i64 4097)) h) (
pFld (some 3) x9 fun t13=>
lLd (some false) (some 1) t13 h fun t14 _=>
pMM true t14 (.sc (.int .i64 4097)) fun t16=>
pBin Try.prog .mul 3 false x10 t16 fun t17=>
n3 W R N E P x0 x2 x7 x8 t17 h)
def n5:N8:=fun W R N E P x0 x2 x7 x8 x9 x10 x48 x51 h=>
pPick x48 x51 (.sc (.bool false)) fun t18=>
n4 W R N E P x0 x2 x7 x8 x9 x10 t18 h
def n6:N7:=fun W R N E P x0 x2 x7 x8 x9 x10 x48 h=>
aIg true x48 (
pFld (some 3) x9 fun t19=>
lLd (some false) (some 1) t19 h fun t20 _=>
pBin Try.prog .gtr 3 true t20 (.sc (.int .i64 4096)) fun t22=>
n5 W R N E P x0 x2 x7 x8 x9 x10 x48 t22 h) (
n5 W R N E P x0 x2 x7 x8 x9 x10 x48 noA h)
def n7:N6:=fun W R N E P x0 x2 x7 x8 x9 x10 h=>
pBin Try.prog .gtr 3 true x10 (.sc (.int .i64 0)) fun t23=>
n6 W R N E P x0 x2 x7 x8 x9 x10 t23 h
def n8:N5:=fun W R N E P x0 x2 x7 x8 x9 h=>
pBin Try.prog .add 3 true x8 (.sc (.int .i64 1)) fun t24=>
pBin Try.prog .add 3 true x8 (.sc (.int .i64 1)) fun t25=>
pFld (some 4) x9 fun t26=>
lLd (some false) (some 1) t26 h fun t27 _=>
pBin Try.prog .add 3 false t25 t27 fun t29=>
aCall Try.prog W 31 [x0,t24,t29] h (fun t30 h31=>
n7 W R N E P x0 x2 x7 x8 x9 t30 h31) P
def n9:N7:=fun W R N E P x0 x2 x7 x8 x10 x11 x69 h=>
aIf x69 (
pNil x0 fun t32=>
pFld (some 3) t32 fun t33=>
lLd (some false) (some 1) t33 h fun t34 _=>
pIxA (some (7,none)) t34 x11 fun t36=>
pFld (some 5) t36 fun t37=>
lLd (some false) (some 1) t37 h fun t38 _=>
n3 W R N E P x0 x2 x7 x8 t38 h) (
n3 W R N E P x0 x2 x7 x8 x10 h)
def n10:N8:=fun W R N E P x0 x2 x7 x8 x10 x11 x64 x68 h=>
pPick x64 x68 (.sc (.bool false)) fun t40=>
n9 W R N E P x0 x2 x7 x8 x10 x11 t40 h
def n11:N8:=fun W R N E P x0 x2 x7 x8 x9 x10 x11 x64 h=>
aIg true x64 (
pFld (some 1) x9 fun t41=>
lLd (some false) (some 1) t41 h fun t42 _=>
aCall Try.prog W 54 [t42] h (fun t44 h45=>
pBin Try.prog .eql 3 true t44 (.sc (.int .i64 0)) fun t46=>
n10 W R N E P x0 x2 x7 x8 x10 x11 x64 t46 h45) P) (
n10 W R N E P x0 x2 x7 x8 x10 x11 x64 noA h)
def n12:N7:=fun W R N E P x0 x2 x7 x8 x9 x10 x11 h=>
pBin Try.prog .geq 3 true x11 (.sc (.int .i64 0)) fun t47=>
n11 W R N E P x0 x2 x7 x8 x9 x10 x11 t47 h
def n13:N6:=fun W R N E P x0 x2 x7 x8 x9 x10 h=>
pFld (some 1) x9 fun t48=>
lLd (some false) (some 1) t48 h fun t49 _=>
aCall Try.prog W 53 [x0,t49] h (fun t51 h52=>
n12 W R N E P x0 x2 x7 x8 x9 x10 t51 h52) P
def n14:N7:=fun W R N E P x0 x2 x7 x8 x9 x10 x36 h=>
aIf x36 (
n8 W R N E P x0 x2 x7 x8 x9 h) (
n13 W R N E P x0 x2 x7 x8 x9 x10 h)
def n15:N6:=fun W R N E P x0 x2 x7 x8 x9 x10 h=>
pFld (some 0) x9 fun t53=>
lLd (some false) (some 1) t53 h fun t54 _=>
pBin Try.prog .eql 9 true t54 (.sc (.string ⟨#[114,101,112,101,97,116]⟩)) fun t56=>
n14 W R N E P x0 x2 x7 x8 x9 x10 t56 h
def n16:N5:=fun W R N E P x0 x2 x7 x8 x9 h=>
n15 W R N E P x0 x2 x7 x8 x9 (.sc (.int .i64 1)) h
def n17:N4:=fun W R N E P x0 x2 x7 x8 h=>
pNil x0 fun t57=>
pFld (some 0) t57 fun t58=>
lLd (some false) (some 1) t58 h fun t59 _=>
pIxA (some (6,none)) t59 x8 fun t61=>
lLd (some true) (some 6) t61 h fun t62 _=>
eAlloc (some [.string ⟨#[]⟩,.string ⟨#[]⟩,.slice none 0 0,.int .i64 0,.int .i64 0,.int .i64 0]) 6 42 h fun t64 h65=>
eStore (some 6) t64 t62 h65 W fun h66=>
n16 W R N E P x0 x2 x7 x8 t64 h66
def n18:N5:=fun W R N E P x0 x2 x7 x8 x15 h=>
aIf x15 (
n17 W R N E P x0 x2 x7 x8 h) (
E 0 [x7] h)
def n19:N4:=fun W R N E P x0 x2 x7 x8 h=>
pBin Try.prog .lss 3 false x8 x2 fun t67=>
n18 W R N E P x0 x2 x7 x8 t67 h
def g1_:GK:=fun W R N E P N' vs h=>n19 W R N' (fun (i:Nat) (vs:List AV) (h:AH)=>if i=0 then n1 W R N E P (vs.getD 0 noA) h else E i vs h) P (vs.getD 0 noA) (vs.getD 1 noA) (vs.getD 2 noA) (vs.getD 3 noA) h
def n20:N4:=fun W R N E P x0 x2 x7 x8 h=>
vLoop (g1_ W R N E P) [x0,x2,x7,x8] h
def n21:N4:=fun W R N E P x0 x1 x2 x7 h=>
n20 W R N E P x0 x2 x7 x1 h
def n22:N3:=fun W R N E P x0 x1 x2 h=>
n21 W R N E P x0 x1 x2 (.sc (.int .i64 0)) h
def n23:N3:=fun W R N E P x0 x1 x2 h=>
n22 W R N E P x0 x1 x2 h
theorem callsN {x0 x1 x2:AV} {h:AH} {M:WK} {R:RK} (hp:n23 (fun id=>M id\/h.next<=id) (retV Try.prog [.tmp 6] R) (retV Try.prog [.tmp 6] R) (fun _ _ _=>False) (fun v h=>R (.pan v) h) x0 x1 x2 h):ACalls Try.prog 31 [x0,x1,x2] h M R:=
 fin (n:=83) (pl:=[(9,⟨[(none,(fr 0 3)),(some (2,true),(fr 3 3)),(none,(fr 6 1))],false,[],[]⟩),(13,⟨[(none,(fr 0 3)),(some (2,true),(fr 3 4)),(none,(fr 7 1))],false,[],[]⟩)]) (rs:=[.tmp 6]) (L:=rs) (fun c=>(a3 n23 0 1 2 c)) Try.mixed Try.func31 (fun c=>
(sq (a3 n23 0 1 2 c)
(sq (a3 n22 0 1 2 c)
(sn
(sl (a1 n1 7 c))
(sq (a4 n21 0 1 2 7 c)
(bk 0 (lp [0,2,7,8] rs [(0,[7])] (a4 n20 0 2 7 8 c) g1_ (fun i vs h=>if i=0 then n1 c.W c.R c.N c.E c.P (vs.getD 0 noA) h else c.E i vs h) (.b (.t .o)) fun c=>
(sn
(sn
(sm (a4 n2 0 2 7 8 c))
(bk 1 (sq (a4 n17 0 2 7 8 c)
(sq (a5 n16 0 2 7 8 9 c)
(sn
(sm (a5 n3 0 2 7 8 10 c))
(sq (a6 n15 0 2 7 8 9 10 c)
(cd (a7 n14 0 2 7 8 9 10 36 c) (sq (a5 n8 0 2 7 8 9 c)
(sn
(cd (a7 n4 0 2 7 8 9 10 52 c) tr tr)
(gr (gn (a6 n7 0 2 7 8 9 10 c) (gx (a7 n6 0 2 7 8 9 10 48 c) (gl (a8 n5 0 2 7 8 9 10 48 51 c))))))) (sq (a6 n13 0 2 7 8 9 10 c)
(sn
(cd (a7 n9 0 2 7 8 10 11 69 c) tr tr)
(gr (gn (a7 n12 0 2 7 8 9 10 11 c) (gx (a8 n11 0 2 7 8 9 10 11 64 c) (gl (a8 n10 0 2 7 8 10 11 64 68 c))))))))))))))
(sq (a4 n19 0 2 7 8 c)
(cd (a5 n18 0 2 7 8 15 c) tr tr)))))))))) hp
attribute [simp] n1 n2 n3 n4 n5 n6 n7 n8 n9 n10 n11 n12 n13 n14 n15 n16 n17 n18 n19 n21 n22 n23
end F31
namespace F34
abbrev rs:List Nat:=[]
def n1:N2:=fun W _ N _ _ x0 x2 h=>
pNil x0 fun t1=>
pFld (some 8) t1 fun t2=>
lLd (some false) (some 1) t2 h fun t3 _=>
eBSl (some (1,3,[.int .i64 0])) 1 [(0,x2)] h fun t5 h6=>
eApp (some (1,8,3)) t3 t5 h6 W fun t7 h8=>
pNil x0 fun t9=>
pFld (some 8) t9 fun t10=>
eStore (some 1) t10 t7 h8 W fun h11=>
N [] h11
def n2:N3:=fun W R N E P x0 x2 x4 h=>
pNil x0 fun t12=>
pFld (some 7) t12 fun t13=>
lLd (some false) (some 1) t13 h fun t14 _=>
lLd (some true) (some 7) x4 h fun t16 _=>
eBSl (some (7,49,[.int .i64 0,.string ⟨#[]⟩,.slice none 0 0,.int .i64 0,.bool false,.int .u64 0,.int .u64 0])) 1 [(0,t16)] h fun t18 h19=>
eApp (some (7,80,49)) t14 t18 h19 W fun t20 h21=>
pNil x0 fun t22=>
pFld (some 7) t22 fun t23=>
eStore (some 1) t23 t20 h21 W fun h24=>
n1 W R N E P x0 x2 h24
def n3:N2:=fun W R _ _ _ x0 x2 h=>
pNil x0 fun t25=>
pFld (some 4) t25 fun t26=>
eStore (some 1) t26 x2 h W fun h27=>
pNil x0 fun t28=>
pFld (some 5) t28 fun t29=>
eStore (some 1) t29 (.sc (.int .i64 115)) h27 W fun h30=>
R [] h30
def n4:N2:=fun W R N E P x0 x2 h=>
pNil x0 fun t31=>
pFld (some 6) t31 fun t32=>
eStore (some 1) t32 (.sc (.bool true)) h W fun h33=>
n3 W R N E P x0 x2 h33
def n5:N4:=fun W R N E P x0 x2 x4 x15 h=>
aIf x15 (
n4 W R N E P x0 x2 h) (
n2 W R N E P x0 x2 x4 h)
def n6:N3:=fun W R N E P x0 x2 x4 h=>
pNil x0 fun t34=>
pFld (some 7) t34 fun t35=>
lLd (some false) (some 1) t35 h fun t36 _=>
(strArg t36=false)/\pLen t36 fun t38=>
pBin Try.prog .eql 3 true t38 (.sc (.int .i64 4096)) fun t39=>
n5 W R N E P x0 x2 x4 t39 h
def n7:N4:=fun W R N E P x0 x2 x4 x9 h=>
aIf x9 (
R [] h) (
n6 W R N E P x0 x2 x4 h)
def n8:N3:=fun W R N E P x0 x2 x4 h=>
pNil x0 fun t40=>
pFld (some 6) t40 fun t41=>
lLd (some false) (some 1) t41 h fun t42 _=>
n7 W R N E P x0 x2 x4 t42 h
def n9:N3:=fun W R N E P x0 x1 x2 h=>
eBox 7 49 x1 h fun t44 h45=>
n8 W R N E P x0 x2 t44 h45
theorem callsN {x0 x1 x2:AV} {h:AH} {M:WK} {R:RK} (hp:n9 (fun id=>M id\/h.next<=id) (retV Try.prog [] R) (retV Try.prog [] R) (fun _ _ _=>False) (fun v h=>R (.pan v) h) x0 x1 x2 h):ACalls Try.prog 34 [x0,x1,x2] h M R:=
 fin (n:=46) (pl:=[(5,⟨[(none,(fr 0 11))],false,[],[]⟩)]) (rs:=[]) (L:=rs) (fun c=>(a3 n9 0 1 2 c)) Try.mixed Try.func34 (fun c=>
(sq (a3 n9 0 1 2 c)
(sn
(sn
(sq (a3 n2 0 2 4 c)
(sm (a2 n1 0 2 c)))
(sq (a3 n6 0 2 4 c)
(cd (a4 n5 0 2 4 15 c) (sq (a2 n4 0 2 c)
(sl (a2 n3 0 2 c))) tr)))
(sq (a3 n8 0 2 4 c)
(cd (a4 n7 0 2 4 9 c) tr tr))))) hp
attribute [simp] n1 n2 n3 n4 n5 n6 n7 n8 n9
end F34
namespace F55
abbrev rs:List Nat:=[]
def n1:N7:=fun _ _ N _ _ x0 x3 x4 x6 x8 x12 x14 h=>
pNil x0 fun t1=>
pFld (some 0) t1 fun t2=>
lLd (some false) (some 1) t2 h fun t3 _=>
pIxA (some (6,none)) t3 x14 fun t5=>
pFld (some 4) t5 fun t6=>
lLd (some false) (some 1) t6 h fun t7 _=>
pBin Try.prog .add 3 true (.sc (.int .i64 1)) t7 fun t9=>
pBin Try.prog .add 3 false x14 t9 fun t10=>
N [x0,x3,x4,x6,x8,x12,t10] h
def n2:N9:=fun _ _ N _ _ x0 x3 x4 x6 x8 x12 x14 x15 x18 h=>
pBin Try.prog .add 3 true x18 (.sc (.int .i64 1)) fun t11=>
N [x0,x3,x4,x6,x8,x12,x14,x15,t11] h
def n3:N10:=fun W R N E P x0 x3 x4 x6 x8 x12 x14 x15 x18 x122 h=>
aIf x122 (
E 4 [x0,x3,x4,x6,x8,x12,x14] h) (
n2 W R N E P x0 x3 x4 x6 x8 x12 x14 x15 x18 h)
def n4:N10:=fun W R N E P x0 x3 x4 x6 x8 x12 x14 x15 x18 x19 h=>
pNil x0 fun t12=>
pFld (some 7) t12 fun t13=>
lLd (some false) (some 1) t13 h fun t14 _=>
(strArg t14=false)/\pLen t14 fun t16=>
pBin Try.prog .eql 3 false t16 x19 fun t17=>
n3 W R N E P x0 x3 x4 x6 x8 x12 x14 x15 x18 t17 h
def n5:N10:=fun W R N E P x0 x3 x4 x6 x8 x12 x14 x15 x18 x19 h=>
lLd (some true) (some 7) x8 h fun t18 _=>
pBin Try.prog .add 3 true x14 (.sc (.int .i64 1)) fun t20=>
pBin Try.prog .add 3 true x14 (.sc (.int .i64 1)) fun t21=>
pFld (some 4) x15 fun t22=>
lLd (some false) (some 1) t22 h fun t23 _=>
pBin Try.prog .add 3 false t21 t23 fun t25=>
lLd (some true) (some 7) x12 h fun t26 _=>
aCall Try.prog W 55 [x0,t18,t20,t25,x4,t26,x6] h (fun t28 h29=>
n4 W R N E P x0 x3 x4 x6 x8 x12 x14 x15 x18 x19 h29) P
def n6:N9:=fun W R N E P x0 x3 x4 x6 x8 x12 x14 x15 x18 h=>
pNil x0 fun t30=>
pFld (some 7) t30 fun t31=>
lLd (some false) (some 1) t31 h fun t32 _=>
(strArg t32=false)/\pLen t32 fun t34=>
n5 W R N E P x0 x3 x4 x6 x8 x12 x14 x15 x18 t34 h
def n7:N10:=fun W R N E P x0 x3 x4 x6 x8 x12 x14 x15 x18 x95 h=>
aIf x95 (
n6 W R N E P x0 x3 x4 x6 x8 x12 x14 x15 x18 h) (
E 4 [x0,x3,x4,x6,x8,x12,x14] h)
def n8:N11:=fun W R N E P x0 x3 x4 x6 x8 x12 x14 x15 x18 x89 x94 h=>
pPick x89 x94 (.sc (.bool false)) fun t35=>
n7 W R N E P x0 x3 x4 x6 x8 x12 x14 x15 x18 t35 h
def n9:N10:=fun W R N E P x0 x3 x4 x6 x8 x12 x14 x15 x18 x89 h=>
aIg true x89 (
pNil x0 fun t36=>
pFld (some 6) t36 fun t37=>
lLd (some false) (some 1) t37 h fun t38 _=>
pUn .not t38 fun t40=>
n8 W R N E P x0 x3 x4 x6 x8 x12 x14 x15 x18 x89 t40 h) (
n8 W R N E P x0 x3 x4 x6 x8 x12 x14 x15 x18 x89 noA h)
def n10:N9:=fun W R N E P x0 x3 x4 x6 x8 x12 x14 x15 x18 h=>
pFld (some 3) x15 fun t41=>
lLd (some false) (some 1) t41 h fun t42 _=>
pBin Try.prog .lss 3 false x18 t42 fun t44=>
n9 W R N E P x0 x3 x4 x6 x8 x12 x14 x15 x18 t44 h
def g2_:GK:=fun W R N E P N' vs h=>n10 W R N' (fun (i:Nat) (vs:List AV) (h:AH)=>if i=4 then n1 W R N E P (vs.getD 0 noA) (vs.getD 1 noA) (vs.getD 2 noA) (vs.getD 3 noA) (vs.getD 4 noA) (vs.getD 5 noA) (vs.getD 6 noA) h else if i=1 then n1 W R N E P (vs.getD 0 noA) (vs.getD 1 noA) (vs.getD 2 noA) (vs.getD 3 noA) (vs.getD 4 noA) (vs.getD 5 noA) (vs.getD 6 noA) h else E i vs h) P (vs.getD 0 noA) (vs.getD 1 noA) (vs.getD 2 noA) (vs.getD 3 noA) (vs.getD 4 noA) (vs.getD 5 noA) (vs.getD 6 noA) (vs.getD 7 noA) (vs.getD 8 noA) h
def n11:N9:=fun W R N E P x0 x3 x4 x6 x8 x12 x14 x15 x18 h=>
vLoop (g2_ W R N E P) [x0,x3,x4,x6,x8,x12,x14,x15,x18] h
def n12:N8:=fun W R N E P x0 x3 x4 x6 x8 x12 x14 x15 h=>
n11 W R N E P x0 x3 x4 x6 x8 x12 x14 x15 (.sc (.int .i64 0)) h
def n13:N9:=fun W R N E P x0 x3 x4 x6 x8 x12 x14 x15 x16 h=>
pFld (some 1) x15 fun t45=>
lLd (some false) (some 1) t45 h fun t46 _=>
lLd (some true) (some 7) x12 h fun t48 _=>
aCall Try.prog W 33 [x0,t46,x16,t48,x6] h (fun t50 h51=>
n1 W R N E P x0 x3 x4 x6 x8 x12 x14 h51) P
def n14:N10:=fun _ _ N _ _ x0 x3 x4 x6 x8 x12 x14 x15 x16 x17 h=>
pBin Try.prog .add 3 true x17 (.sc (.int .i64 1)) fun t52=>
N [x0,x3,x4,x6,x8,x12,x14,x15,x16,t52] h
def n15:N10:=fun W R N E P x0 x3 x4 x6 x8 x12 x14 x15 x16 x17 h=>
pFld (some 1) x8 fun t53=>
lLd (some false) (some 1) t53 h fun t54 _=>
pFld (some 2) x15 fun t56=>
lLd (some false) (some 1) t56 h fun t57 _=>
pIxA (some (2,none)) t57 x17 fun t59=>
pFld (some 0) t59 fun t60=>
lLd (some false) (some 1) t60 h fun t61 _=>
aCall Try.prog noW 82 [t54,t61] h (fun t63 h64=>
pIxA (some (1,none)) x4 t63 fun t65=>
lLd (some false) (some 1) t65 h64 fun t66 _=>
eBSl (some (1,3,[.int .i64 0])) 1 [(0,t66)] h64 fun t68 h69=>
eApp (some (1,8,3)) x16 t68 h69 W fun t70 h71=>
n14 W R N E P x0 x3 x4 x6 x8 x12 x14 x15 t70 x17 h71) P
def n16:N11:=fun W R N E P x0 x3 x4 x6 x8 x12 x14 x15 x16 x17 x60 h=>
aIf x60 (
n15 W R N E P x0 x3 x4 x6 x8 x12 x14 x15 x16 x17 h) (
E 2 [x0,x3,x4,x6,x8,x12,x14,x15,x16] h)
def n17:N10:=fun W R N E P x0 x3 x4 x6 x8 x12 x14 x15 x16 x17 h=>
pFld (some 2) x15 fun t72=>
lLd (some false) (some 1) t72 h fun t73 _=>
(strArg t73=false)/\pLen t73 fun t75=>
pBin Try.prog .lss 3 false x17 t75 fun t76=>
n16 W R N E P x0 x3 x4 x6 x8 x12 x14 x15 x16 x17 t76 h
def g3_:GK:=fun W R N E P N' vs h=>n17 W R N' (fun (i:Nat) (vs:List AV) (h:AH)=>if i=2 then n13 W R N E P (vs.getD 0 noA) (vs.getD 1 noA) (vs.getD 2 noA) (vs.getD 3 noA) (vs.getD 4 noA) (vs.getD 5 noA) (vs.getD 6 noA) (vs.getD 7 noA) (vs.getD 8 noA) h else if i=1 then n1 W R N E P (vs.getD 0 noA) (vs.getD 1 noA) (vs.getD 2 noA) (vs.getD 3 noA) (vs.getD 4 noA) (vs.getD 5 noA) (vs.getD 6 noA) h else E i vs h) P (vs.getD 0 noA) (vs.getD 1 noA) (vs.getD 2 noA) (vs.getD 3 noA) (vs.getD 4 noA) (vs.getD 5 noA) (vs.getD 6 noA) (vs.getD 7 noA) (vs.getD 8 noA) (vs.getD 9 noA) h
def n18:N10:=fun W R N E P x0 x3 x4 x6 x8 x12 x14 x15 x16 x17 h=>
vLoop (g3_ W R N E P) [x0,x3,x4,x6,x8,x12,x14,x15,x16,x17] h
def n19:N9:=fun W R N E P x0 x3 x4 x6 x8 x12 x14 x15 x16 h=>
n18 W R N E P x0 x3 x4 x6 x8 x12 x14 x15 x16 (.sc (.int .i64 0)) h
def n20:N8:=fun W R N E P x0 x3 x4 x6 x8 x12 x14 x15 h=>
pFld (some 2) x15 fun t77=>
lLd (some false) (some 1) t77 h fun t78 _=>
(strArg t78=false)/\pLen t78 fun t80=>
eMk (some (1,8,3,[.int .i64 0])) (.sc (.int .i64 0)) t80 h fun t81 h82=>
n19 W R N E P x0 x3 x4 x6 x8 x12 x14 x15 t81 h82
def n21:N9:=fun W R N E P x0 x3 x4 x6 x8 x12 x14 x15 x51 h=>
aIf x51 (
n20 W R N E P x0 x3 x4 x6 x8 x12 x14 x15 h) (
n12 W R N E P x0 x3 x4 x6 x8 x12 x14 x15 h)
def n22:N8:=fun W R N E P x0 x3 x4 x6 x8 x12 x14 x15 h=>
pFld (some 0) x15 fun t83=>
lLd (some false) (some 1) t83 h fun t84 _=>
pBin Try.prog .eql 9 true t84 (.sc (.string ⟨#[117,115,101]⟩)) fun t86=>
n21 W R N E P x0 x3 x4 x6 x8 x12 x14 x15 t86 h
def n23:N7:=fun W R N E P x0 x3 x4 x6 x8 x12 x14 h=>
pNil x0 fun t87=>
pFld (some 0) t87 fun t88=>
lLd (some false) (some 1) t88 h fun t89 _=>
pIxA (some (6,none)) t89 x14 fun t91=>
lLd (some true) (some 6) t91 h fun t92 _=>
eAlloc (some [.string ⟨#[]⟩,.string ⟨#[]⟩,.slice none 0 0,.int .i64 0,.int .i64 0,.int .i64 0]) 6 42 h fun t94 h95=>
eStore (some 6) t94 t92 h95 W fun h96=>
n22 W R N E P x0 x3 x4 x6 x8 x12 x14 t94 h96
def n24:N8:=fun W R N E P x0 x3 x4 x6 x8 x12 x14 x30 h=>
aIf x30 (
n23 W R N E P x0 x3 x4 x6 x8 x12 x14 h) (
E 0 [] h)
def n25:N9:=fun W R N E P x0 x3 x4 x6 x8 x12 x14 x24 x29 h=>
pPick x24 x29 (.sc (.bool false)) fun t97=>
n24 W R N E P x0 x3 x4 x6 x8 x12 x14 t97 h
def n26:N8:=fun W R N E P x0 x3 x4 x6 x8 x12 x14 x24 h=>
aIg true x24 (
pNil x0 fun t98=>
pFld (some 6) t98 fun t99=>
lLd (some false) (some 1) t99 h fun t100 _=>
pUn .not t100 fun t102=>
n25 W R N E P x0 x3 x4 x6 x8 x12 x14 x24 t102 h) (
n25 W R N E P x0 x3 x4 x6 x8 x12 x14 x24 noA h)
def n27:N7:=fun W R N E P x0 x3 x4 x6 x8 x12 x14 h=>
pBin Try.prog .lss 3 false x14 x3 fun t103=>
n26 W R N E P x0 x3 x4 x6 x8 x12 x14 t103 h
def g1_:GK:=fun W R N E P N' vs h=>n27 W R N' (fun (i:Nat) (vs:List AV) (h:AH)=>if i=0 then N vs h else E i vs h) P (vs.getD 0 noA) (vs.getD 1 noA) (vs.getD 2 noA) (vs.getD 3 noA) (vs.getD 4 noA) (vs.getD 5 noA) (vs.getD 6 noA) h
def n28:N7:=fun W R N E P x0 x3 x4 x6 x8 x12 x14 h=>
vLoop (g1_ W R N E P) [x0,x3,x4,x6,x8,x12,x14] h
def n29:N7:=fun W R N E P x0 x2 x3 x4 x6 x8 x12 h=>
n28 W R N E P x0 x3 x4 x6 x8 x12 x2 h
def n30:N7:=fun W R N E P x0 x1 x2 x3 x4 x5 x6 h=>
eBox 7 78 x1 h fun t104 h105=>
eBox 7 49 x5 h105 fun t106 h107=>
n29 W R N E P x0 x2 x3 x4 x6 t104 t106 h107
theorem callsN {x0 x1 x2 x3 x4 x5 x6:AV} {h:AH} {M:WK} {R:RK} (hp:n30 (fun id=>M id\/h.next<=id) (retV Try.prog [] R) (retV Try.prog [] R) (fun _ _ _=>False) (fun v h=>R (.pan v) h) x0 x1 x2 x3 x4 x5 x6 h):ACalls Try.prog 55 [x0,x1,x2,x3,x4,x5,x6] h M R:=
 fin (n:=123) (pl:=[(2,⟨[(none,(fr 0 4)),(some (3,true),(fr 4 5)),(none,(fr 9 1))],false,[],[]⟩),(10,⟨[(none,(fr 0 16))],false,[],[10]⟩),(13,⟨[(none,(fr 0 5)),(some (4,true),(fr 5 5)),(none,(fr 10 1))],false,[],[]⟩)]) (rs:=[]) (L:=rs) (fun c=>(a7 n30 0 1 2 3 4 5 6 c)) Try.mixed Try.func55 (fun c=>
(sq (a7 n30 0 1 2 3 4 5 6 c)
(sq (a7 n29 0 2 3 4 6 8 12 c)
(bk 0 (lp [0,3,4,6,8,12,14] rs [(0,[])] (a7 n28 0 3 4 6 8 12 14 c) g1_ (fun i vs h=>if i=0 then c.N vs h else c.E i vs h) (.b .o) fun c=>
(sn
(sn
(sm (a7 n1 0 3 4 6 8 12 14 c))
(bk 1 (sq (a7 n23 0 3 4 6 8 12 14 c)
(sn
(sq (a8 n12 0 3 4 6 8 12 14 15 c)
(bk 4 (lp [0,3,4,6,8,12,14,15,18] rs [(4,[0,3,4,6,8,12,14]),(1,[0,3,4,6,8,12,14]),(0,[])] (a9 n11 0 3 4 6 8 12 14 15 18 c) g2_ (fun i vs h=>if i=4 then n1 c.W c.R c.N c.E c.P (vs.getD 0 noA) (vs.getD 1 noA) (vs.getD 2 noA) (vs.getD 3 noA) (vs.getD 4 noA) (vs.getD 5 noA) (vs.getD 6 noA) h else if i=1 then n1 c.W c.R c.N c.E c.P (vs.getD 0 noA) (vs.getD 1 noA) (vs.getD 2 noA) (vs.getD 3 noA) (vs.getD 4 noA) (vs.getD 5 noA) (vs.getD 6 noA) h else c.E i vs h) (.b (.b (.t .o))) fun c=>
(sn
(sn
(sm (a9 n2 0 3 4 6 8 12 14 15 18 c))
(bk 5 (sq (a9 n6 0 3 4 6 8 12 14 15 18 c)
(sq (a10 n5 0 3 4 6 8 12 14 15 18 19 c)
(sq (a10 n4 0 3 4 6 8 12 14 15 18 19 c)
(cd (a10 n3 0 3 4 6 8 12 14 15 18 122 c) tr tr))))))
(sn
(cd (a10 n7 0 3 4 6 8 12 14 15 18 95 c) tr tr)
(gr (gn (a9 n10 0 3 4 6 8 12 14 15 18 c) (gx (a10 n9 0 3 4 6 8 12 14 15 18 89 c) (gl (a11 n8 0 3 4 6 8 12 14 15 18 89 94 c))))))))))
(sq (a8 n22 0 3 4 6 8 12 14 15 c)
(cd (a9 n21 0 3 4 6 8 12 14 15 51 c) (sq (a8 n20 0 3 4 6 8 12 14 15 c)
(sn
(sl (a9 n13 0 3 4 6 8 12 14 15 16 c))
(sq (a9 n19 0 3 4 6 8 12 14 15 16 c)
(bk 2 (lp [0,3,4,6,8,12,14,15,16,17] rs [(2,[0,3,4,6,8,12,14,15,16]),(1,[0,3,4,6,8,12,14]),(0,[])] (a10 n18 0 3 4 6 8 12 14 15 16 17 c) g3_ (fun i vs h=>if i=2 then n13 c.W c.R c.N c.E c.P (vs.getD 0 noA) (vs.getD 1 noA) (vs.getD 2 noA) (vs.getD 3 noA) (vs.getD 4 noA) (vs.getD 5 noA) (vs.getD 6 noA) (vs.getD 7 noA) (vs.getD 8 noA) h else if i=1 then n1 c.W c.R c.N c.E c.P (vs.getD 0 noA) (vs.getD 1 noA) (vs.getD 2 noA) (vs.getD 3 noA) (vs.getD 4 noA) (vs.getD 5 noA) (vs.getD 6 noA) h else c.E i vs h) (.b (.t (.t (.b (.t .o))))) fun c=>
(sn
(sn
(sm (a10 n14 0 3 4 6 8 12 14 15 16 17 c))
(bk 3 (gr (gl (a10 n15 0 3 4 6 8 12 14 15 16 17 c)))))
(sq (a10 n17 0 3 4 6 8 12 14 15 16 17 c)
(cd (a11 n16 0 3 4 6 8 12 14 15 16 17 60 c) tr tr)))))))) tr))))))
(sn
(cd (a8 n24 0 3 4 6 8 12 14 30 c) tr tr)
(gr (gn (a7 n27 0 3 4 6 8 12 14 c) (gx (a8 n26 0 3 4 6 8 12 14 24 c) (gl (a9 n25 0 3 4 6 8 12 14 24 29 c)))))))))))) hp
attribute [simp] n1 n2 n3 n4 n5 n6 n7 n8 n9 n10 n12 n13 n14 n15 n16 n17 n19 n20 n21 n22 n23 n24 n25 n26 n27 n29 n30
end F55
namespace F32
abbrev rs:List Nat:=[6]
def n1:N1:=fun _ R _ _ _ x6 h=>
R [x6] h
def n2:N2:=fun W R N E P x2 x4 h=>
∃ Hd:Nat->Nat,(∀ i∈[9],h.obj (Hd i)≠none)/\(
pFld (some 0) x4 fun t1=>
lLd (some false) (some 1) t1 h fun t2 _=>
pFld (some 1) x4 fun t4=>
lLd (some false) (some 1) t4 h fun t5 i6=>
(i6=Hd 9)/\(
aCall Try.prog (banL W Hd [9]) 35 [x2,t2] h (fun t7 h8=>
pIxA (some (3,none)) x2 t7 fun t9=>
pFld (some 1) t9 fun t10=>
lLd (some false) (some 1) t10 h8 fun t11 _=>
pBin Try.prog .add 3 false t11 t5 fun t13=>
n1 W R N E P t13 h8) P))
def n3:N2:=fun W R N E P x1 x2 h=>
eBox 2 44 x1 h fun t14 h15=>
n2 W R N E P x2 t14 h15
theorem callsN {x0 x1 x2:AV} {h:AH} {M:WK} {R:RK} (hp:n3 (fun id=>M id\/h.next<=id) (retV Try.prog [.tmp 6] R) (retV Try.prog [.tmp 6] R) (fun _ _ _=>False) (fun v h=>R (.pan v) h) x1 x2 h):ACalls Try.prog 32 [x0,x1,x2] h M R:=
 fin (n:=18) (pl:=[(1,⟨[(none,[(0,false),(1,false),(2,false),(3,false),(8,false),(9,true),(4,false),(5,false),(6,false),(7,false),(10,false),(11,false)])],true,[],[]⟩)]) (rs:=[.tmp 6]) (L:=rs) (fun c=>(a2 n3 1 2 c)) Try.mixed Try.func32 (fun c=>
(sq (a2 n3 1 2 c)
(sn
(sm (a1 n1 6 c))
(sm (a2 n2 2 4 c))))) hp
attribute [simp] n1 n2 n3
end F32
namespace F33
abbrev rs:List Nat:=[]
def n1:N6:=fun W _ N _ P x0 x2 x4 x8 x10 x34 h=>
aIf x34 (
lLd (some true) (some 7) x10 h fun t1 _=>
pFld (some 2) x10 fun t3=>
lLd (some false) (some 1) t3 h fun t4 _=>
pFld (some 3) x10 fun t6=>
lLd (some false) (some 1) t6 h fun t7 _=>
lLd (some true) (some 7) x8 h fun t9 _=>
aCall Try.prog W 55 [x0,t1,t4,t7,x2,t9,x4] h (fun t11 h12=>
N [] h12) P) (
N [] h)
def n2:N5:=fun W R N E P x0 x2 x4 x8 x10 h=>
pFld (some 5) x10 fun t13=>
lLd (some false) (some 1) t13 h fun t14 _=>
pBin Try.prog .gtr 3 true t14 (.sc (.int .i64 0)) fun t16=>
n1 W R N E P x0 x2 x4 x8 x10 t16 h
def n3:N5:=fun W R N E P x0 x1 x2 x4 x8 h=>
∃ Hd:Nat->Nat,(∀ i∈[3],h.obj (Hd i)≠none)/\(
pNil x0 fun t17=>
pFld (some 3) t17 fun t18=>
lLd (some false) (some 1) t18 h fun t19 i20=>
(i20=Hd 3)/\(
(
aCall Try.prog (banL W Hd [3]) 53 [x0,x1] h (fun t21 h22=>
pIxA (some (7,none)) t19 t21 fun t23=>
lLd (some true) (some 7) t23 h22 fun t24 _=>
eAlloc (some [.string ⟨#[]⟩,.slice none 0 0,.int .i64 0,.int .i64 0,.int .i64 0,.int .i64 0,.bool false]) 7 78 h22 fun t26 h27=>
eStore (some 7) t26 t24 h27 W fun h28=>
n2 W R N E P x0 x2 x4 x8 t26 h28) P)/\(
eAlloc (some [.string ⟨#[]⟩,.slice none 0 0,.int .i64 0,.int .i64 0,.int .i64 0,.int .i64 0,.bool false]) 7 78 h fun t29 h30=>
aCall Try.prog (banL W Hd [3]) 53 [x0,x1] h30 (fun t31 h32=>
pIxA (some (7,none)) t19 t31 fun t33=>
lLd (some true) (some 7) t33 h32 fun t34 _=>
eStore (some 7) t29 t34 h32 W fun h36=>
n2 W R N E P x0 x2 x4 x8 t29 h36) P)/\True))
def n4:N3:=fun W R _ _ P x0 x4 x8 h=>
lLd (some true) (some 7) x8 h fun t37 _=>
aCall Try.prog W 34 [x0,t37,x4] h (fun t39 h40=>
R [] h40) P
def n5:N4:=fun W R N E P x0 x2 x4 x8 h=>
pFld (some 2) x8 fun t41=>
eStore (some 1) t41 x2 h W fun h42=>
n4 W R N E P x0 x4 x8 h42
def n6:N5:=fun W R N E P x0 x1 x2 x4 x8 h=>
pFld (some 1) x8 fun t43=>
eStore (some 1) t43 x1 h W fun h44=>
n5 W R N E P x0 x2 x4 x8 h44
def n7:N5:=fun W R N E P x0 x1 x2 x4 x8 h=>
pFld (some 0) x8 fun t45=>
eStore (some 1) t45 (.sc (.int .i64 1)) h W fun h46=>
n6 W R N E P x0 x1 x2 x4 x8 h46
def n8:N6:=fun W R N E P x0 x1 x2 x4 x8 x13 h=>
aIf x13 (
n7 W R N E P x0 x1 x2 x4 x8 h) (
n3 W R N E P x0 x1 x2 x4 x8 h)
def n9:N5:=fun W R N E P x0 x1 x2 x4 x8 h=>
aCall Try.prog W 54 [x1] h (fun t47 h48=>
pBin Try.prog .gtr 3 true t47 (.sc (.int .i64 0)) fun t49=>
n8 W R N E P x0 x1 x2 x4 x8 t49 h48) P
def n10:N5:=fun W R N E P x0 x1 x2 x3 x4 h=>
eBox 7 49 x3 h fun t50 h51=>
n9 W R N E P x0 x1 x2 x4 t50 h51
theorem callsN {x0 x1 x2 x3 x4:AV} {h:AH} {M:WK} {R:RK} (hp:n10 (fun id=>M id\/h.next<=id) (retV Try.prog [] R) (retV Try.prog [] R) (fun _ _ _=>False) (fun v h=>R (.pan v) h) x0 x1 x2 x3 x4 h):ACalls Try.prog 33 [x0,x1,x2,x3,x4] h M R:=
 fin (n:=45) (pl:=[(6,⟨[(none,[(0,false),(1,false),(2,false),(3,true),(4,false),(5,false)])],true,[.mk (fr 6 5) [],.mk [(9,false),(6,false),(7,false),(8,false),(10,false)] []],[]⟩)]) (rs:=[]) (L:=rs) (fun c=>(a5 n10 0 1 2 3 4 c)) Try.mixed Try.func33 (fun c=>
(sq (a5 n10 0 1 2 3 4 c)
(sn
(sn
(sq (a5 n2 0 2 4 8 10 c)
(cd (a6 n1 0 2 4 8 10 34 c) tr tr))
(sm (a5 n3 0 1 2 4 8 c)))
(sq (a5 n9 0 1 2 4 8 c)
(cd (a6 n8 0 1 2 4 8 13 c) (sq (a5 n7 0 1 2 4 8 c)
(sq (a5 n6 0 1 2 4 8 c)
(sq (a4 n5 0 2 4 8 c)
(sl (a3 n4 0 4 8 c))))) tr))))) hp
attribute [simp] n1 n2 n3 n4 n5 n6 n7 n8 n9 n10
end F33
end Go.Proofs.Ytjehibknlmehmaa
namespace Go.Proofs.Ytjehibknlmehmaa
open Go.Ab
namespace F3
abbrev rs:List Nat:=[2]
def n1:N1:=fun _ R _ _ _ x2 h=>
R [x2] h
def n2:N2:=fun W R N E P x33 x36 h=>
pPick x33 x36 (.sc (.bool false)) fun t1=>
n1 W R N E P t1 h
def n3:N3:=fun W R N E P x5 x8 x33 h=>
aIg true x33 (
pBin Try.prog .eql 3 false x8 x5 fun t2=>
n2 W R N E P x33 t2 h) (
n2 W R N E P x33 noA h)
def n4:N4:=fun W R N E P x5 x8 x28 x31 h=>
pPick x28 x31 (.sc (.bool false)) fun t3=>
n3 W R N E P x5 x8 t3 h
def n5:N5:=fun W R N E P x4 x5 x7 x8 x28 h=>
aIg true x28 (
pBin Try.prog .eql 3 false x7 x4 fun t4=>
n4 W R N E P x5 x8 x28 t4 h) (
n4 W R N E P x5 x8 x28 noA h)
def n6:N6:=fun W R N E P x3 x4 x5 x6 x7 x8 h=>
lLd (some true) (some 3) x6 h fun t5 _=>
lLd (some true) (some 3) x3 h fun t7 _=>
aCall Try.prog W 11 [t5,t7] h (fun t9 h10=>
n5 W R N E P x4 x5 x7 x8 t9 h10) P
def n7:N4:=fun W R N E P x0 x3 x4 x5 h=>
aCall Try.prog W 10 [x0] h (fun t11 h12=>
pExt t11 0 fun t13=>
pExt t11 1 fun t14=>
pExt t11 2 fun t15=>
eAlloc (some [.int .i64 0,.int .i64 0,.slice none 0 0]) 3 27 h12 fun t16 h17=>
eStore (some 3) t16 t13 h17 W fun h18=>
n6 W R N E P x3 x4 x5 t16 t14 t15 h18) P
def n8:N1:=fun W R N E P x0 h=>
aCall Try.prog W 9 [x0] h (fun t19 h20=>
pExt t19 0 fun t21=>
pExt t19 1 fun t22=>
pExt t19 2 fun t23=>
eAlloc (some [.int .i64 0,.int .i64 0,.slice none 0 0]) 3 27 h20 fun t24 h25=>
eStore (some 3) t24 t21 h25 W fun h26=>
n7 W R N E P x0 t24 t22 t23 h26) P
def n9:N0:=fun _ R _ _ _ h=>
R [(.sc (.bool true))] h
def n10:N2:=fun W R N E P x0 x12 h=>
aIf x12 (
n9 W R N E P h) (
n8 W R N E P x0 h)
def n11:N1:=fun W R N E P x0 h=>
aCall Try.prog W 8 [x0] h (fun t27 h28=>
n10 W R N E P x0 t27 h28) P
def n12:N0:=fun _ R _ _ _ h=>
R [(.sc (.bool false))] h
def n13:N2:=fun W R N E P x0 x10 h=>
aIf x10 (
n12 W R N E P h) (
n11 W R N E P x0 h)
def n14:N1:=fun W R N E P x0 h=>
aCall Try.prog W 7 [] h (fun t29 h30=>
pUn .not t29 fun t31=>
n13 W R N E P x0 t31 h30) P
def n15:N1:=fun W R N E P x0 h=>
n14 W R N E P x0 h
theorem callsN {x0:AV} {h:AH} {M:WK} {R:RK} (hp:n15 (fun id=>M id\/h.next<=id) (retV Try.prog [.tmp 2] R) (retV Try.prog [.tmp 2] R) (fun _ _ _=>False) (fun v h=>R (.pan v) h) x0 h):ACalls Try.prog 3 [x0] h M R:=
 fin (n:=38) (pl:=[(7,⟨[(none,(fr 0 4)),(some (3,true),(fr 4 3)),(none,(fr 7 2)),(some (8,true),(fr 9 3)),(none,(fr 12 2))],false,[],[]⟩)]) (rs:=[.tmp 2]) (L:=rs) (fun c=>(a1 n15 0 c)) Try.mixed Try.func3 (fun c=>
(sq (a1 n15 0 c)
(sn
(sn
(sq (a1 n8 0 c)
(sq (a4 n7 0 3 4 5 c)
(sn
(sm (a1 n1 2 c))
(gr (gn (a6 n6 3 4 5 6 7 8 c) (gx (a5 n5 4 5 7 8 28 c) (gn (a4 n4 5 8 28 31 c) (gx (a3 n3 5 8 33 c) (gl (a2 n2 33 36 c))))))))))
(sq (a1 n11 0 c)
(cd (a2 n10 0 12 c) (sl (a0 n9 c)) tr)))
(sq (a1 n14 0 c)
(cd (a2 n13 0 10 c) (sl (a0 n12 c)) tr))))) hp
attribute [simp] n1 n2 n3 n4 n5 n6 n7 n8 n9 n10 n11 n12 n13 n14 n15
end F3
namespace F7
abbrev rs:List Nat:=[0]
def n1:N1:=fun _ R _ _ _ x0 h=>
R [x0] h
def n2:N2:=fun W R N E P x86 x92 h=>
pPick x86 x92 (.sc (.bool false)) fun t1=>
n1 W R N E P t1 h
def n3:N2:=fun W R N E P x1 x86 h=>
aIg true x86 (
pFld (some 2) x1 fun t2=>
lLd (some false) (some 1) t2 h fun t3 _=>
pIxA (some (7,none)) t3 (.sc (.int .i64 1)) fun t5=>
pFld (some 6) t5 fun t6=>
lLd (some false) (some 1) t6 h fun t7 _=>
pBin Try.prog .eql 47 true t7 (.sc (.int .u64 4)) fun t9=>
n2 W R N E P x86 t9 h) (
n2 W R N E P x86 noA h)
def n4:N3:=fun W R N E P x1 x78 x84 h=>
pPick x78 x84 (.sc (.bool false)) fun t10=>
n3 W R N E P x1 t10 h
def n5:N2:=fun W R N E P x1 x78 h=>
aIg true x78 (
pFld (some 2) x1 fun t11=>
lLd (some false) (some 1) t11 h fun t12 _=>
pIxA (some (7,none)) t12 (.sc (.int .i64 1)) fun t14=>
pFld (some 5) t14 fun t15=>
lLd (some false) (some 1) t15 h fun t16 _=>
pBin Try.prog .eql 47 true t16 (.sc (.int .u64 4)) fun t18=>
n4 W R N E P x1 x78 t18 h) (
n4 W R N E P x1 x78 noA h)
def n6:N3:=fun W R N E P x1 x71 x76 h=>
pPick x71 x76 (.sc (.bool false)) fun t19=>
n5 W R N E P x1 t19 h
def n7:N2:=fun W R N E P x1 x71 h=>
aIg true x71 (
pFld (some 2) x1 fun t20=>
lLd (some false) (some 1) t20 h fun t21 _=>
pIxA (some (7,none)) t21 (.sc (.int .i64 1)) fun t23=>
pFld (some 4) t23 fun t24=>
lLd (some false) (some 1) t24 h fun t25 _=>
n6 W R N E P x1 x71 t25 h) (
n6 W R N E P x1 x71 noA h)
def n8:N3:=fun W R N E P x1 x63 x69 h=>
pPick x63 x69 (.sc (.bool false)) fun t27=>
n7 W R N E P x1 t27 h
def n9:N2:=fun W R N E P x1 x63 h=>
aIg true x63 (
pFld (some 2) x1 fun t28=>
lLd (some false) (some 1) t28 h fun t29 _=>
pIxA (some (7,none)) t29 (.sc (.int .i64 0)) fun t31=>
pFld (some 3) t31 fun t32=>
lLd (some false) (some 1) t32 h fun t33 _=>
pBin Try.prog .eql 3 true t33 (.sc (.int .i64 2)) fun t35=>
n8 W R N E P x1 x63 t35 h) (
n8 W R N E P x1 x63 noA h)
def n10:N3:=fun W R N E P x1 x57 x61 h=>
pPick x57 x61 (.sc (.bool false)) fun t36=>
n9 W R N E P x1 t36 h
def n11:N2:=fun W R N E P x1 x57 h=>
aIg true x57 (
pFld (some 2) x1 fun t37=>
lLd (some false) (some 1) t37 h fun t38 _=>
(strArg t38=false)/\pLen t38 fun t40=>
pBin Try.prog .eql 3 true t40 (.sc (.int .i64 2)) fun t41=>
n10 W R N E P x1 x57 t41 h) (
n10 W R N E P x1 x57 noA h)
def n12:N3:=fun W R N E P x1 x52 x55 h=>
pPick x52 x55 (.sc (.bool false)) fun t42=>
n11 W R N E P x1 t42 h
def n13:N2:=fun W R N E P x1 x52 h=>
aIg true x52 (
pFld (some 1) x1 fun t43=>
lLd (some false) (some 1) t43 h fun t44 _=>
pBin Try.prog .eql 3 true t44 (.sc (.int .i64 3)) fun t46=>
n12 W R N E P x1 x52 t46 h) (
n12 W R N E P x1 x52 noA h)
def n14:N1:=fun W R N E P x1 h=>
pFld (some 0) x1 fun t47=>
lLd (some false) (some 1) t47 h fun t48 _=>
pBin Try.prog .eql 3 true t48 (.sc (.int .i64 1)) fun t50=>
n13 W R N E P x1 t50 h
def n15:N0:=fun _ R _ _ _ h=>
R [(.sc (.bool false))] h
def n16:N2:=fun W R N E P x1 x48 h=>
aIf x48 (
n15 W R N E P h) (
n14 W R N E P x1 h)
def n17:N3:=fun W R N E P x1 x45 x47 h=>
pPick x45 (.sc (.bool true)) x47 fun t51=>
n16 W R N E P x1 t51 h
def n18:N3:=fun W R N E P x1 x8 x45 h=>
aIg false x45 (
pBin Try.prog .neq 3 true x8 (.sc (.int .i64 26)) fun t52=>
n17 W R N E P x1 x45 t52 h) (
n17 W R N E P x1 x45 noA h)
def n19:N4:=fun W R N E P x1 x8 x41 x43 h=>
pPick x41 (.sc (.bool true)) x43 fun t53=>
n18 W R N E P x1 x8 t53 h
def n20:N4:=fun W R N E P x1 x8 x9 x41 h=>
aIg false x41 (
pBin Try.prog .neq 30 true x9 (.sc (.int .i64 115)) fun t54=>
n19 W R N E P x1 x8 x41 t54 h) (
n19 W R N E P x1 x8 x41 noA h)
def n21:N5:=fun W R N E P x1 x8 x9 x37 x39 h=>
pPick x37 (.sc (.bool true)) x39 fun t55=>
n20 W R N E P x1 x8 x9 t55 h
def n22:N5:=fun W R N E P x1 x5 x8 x9 x37 h=>
aIg false x37 (
pBin Try.prog .neq 3 true x5 (.sc (.int .i64 11)) fun t56=>
n21 W R N E P x1 x8 x9 x37 t56 h) (
n21 W R N E P x1 x8 x9 x37 noA h)
def n23:N6:=fun W R N E P x1 x5 x8 x9 x33 x35 h=>
pPick x33 (.sc (.bool true)) x35 fun t57=>
n22 W R N E P x1 x5 x8 x9 t57 h
def n24:N6:=fun W R N E P x1 x5 x6 x8 x9 x33 h=>
aIg false x33 (
pBin Try.prog .neq 30 true x6 (.sc (.int .i64 114)) fun t58=>
n23 W R N E P x1 x5 x8 x9 x33 t58 h) (
n23 W R N E P x1 x5 x8 x9 x33 noA h)
def n25:N7:=fun W R N E P x1 x5 x6 x8 x9 x29 x31 h=>
pPick x29 (.sc (.bool true)) x31 fun t59=>
n24 W R N E P x1 x5 x6 x8 x9 t59 h
def n26:N7:=fun W R N E P x1 x2 x5 x6 x8 x9 x29 h=>
aIg false x29 (
pBin Try.prog .neq 3 true x2 (.sc (.int .i64 0)) fun t60=>
n25 W R N E P x1 x5 x6 x8 x9 x29 t60 h) (
n25 W R N E P x1 x5 x6 x8 x9 x29 noA h)
def n27:N8:=fun W R N E P x1 x2 x5 x6 x8 x9 x25 x27 h=>
pPick x25 (.sc (.bool true)) x27 fun t61=>
n26 W R N E P x1 x2 x5 x6 x8 x9 t61 h
def n28:N8:=fun W R N E P x1 x2 x3 x5 x6 x8 x9 x25 h=>
aIg false x25 (
pBin Try.prog .neq 30 true x3 (.sc (.int .i64 0)) fun t62=>
n27 W R N E P x1 x2 x5 x6 x8 x9 x25 t62 h) (
n27 W R N E P x1 x2 x5 x6 x8 x9 x25 noA h)
def n29:N7:=fun W R N E P x1 x2 x3 x5 x6 x8 x9 h=>
n28 W R N E P x1 x2 x3 x5 x6 x8 x9 (.sc (.bool false)) h
def n30:N5:=fun W R N E P x1 x2 x3 x5 x6 h=>
aCall Try.prog W 12 [(.sc (.string ⟨#[113,117,98,105,116,115,32,113,32,49,59,32,114,101,112,101,97,116,32,53,48,48,48,32,123,32,120,32,113,91,48,93,59,32,125]⟩))] h (fun t63 h64=>
pExt t63 0 fun t65=>
pExt t63 1 fun t66=>
pExt t63 2 fun t67=>
eAlloc (some [.int .i64 0,.int .i64 0,.slice none 0 0]) 3 27 h64 fun t68 h69=>
eStore (some 3) t68 t65 h69 W fun h70=>
n29 W R N E P x1 x2 x3 x5 x6 t66 t67 h70) P
def n31:N3:=fun W R N E P x1 x2 x3 h=>
aCall Try.prog W 12 [(.sc (.string ⟨#[103,97,116,101,32,103,32,120,32,123,32,103,32,120,59,32,125]⟩))] h (fun t71 h72=>
pExt t71 0 fun t73=>
pExt t71 1 fun t74=>
pExt t71 2 fun t75=>
eAlloc (some [.int .i64 0,.int .i64 0,.slice none 0 0]) 3 27 h72 fun t76 h77=>
eStore (some 3) t76 t73 h77 W fun h78=>
n30 W R N E P x1 x2 x3 t74 t75 h78) P
def n32:N0:=fun W R N E P h=>
aCall Try.prog W 12 [(.sc (.string ⟨#[113,117,98,105,116,115,32,113,32,49,59,32,98,105,116,115,32,99,32,50,59,32,98,105,116,115,32,100,32,49,59,32,109,101,97,115,117,114,101,32,113,91,48,93,32,100,91,48,93,59,32,105,102,32,100,32,49,32,123,32,120,32,113,91,48,93,59,32,125]⟩))] h (fun t79 h80=>
pExt t79 0 fun t81=>
pExt t79 1 fun t82=>
pExt t79 2 fun t83=>
eAlloc (some [.int .i64 0,.int .i64 0,.slice none 0 0]) 3 27 h80 fun t84 h85=>
eStore (some 3) t84 t81 h85 W fun h86=>
n31 W R N E P t84 t82 t83 h86) P
def n33:N0:=fun W R N E P h=>
n32 W R N E P h
theorem callsN {h:AH} {M:WK} {R:RK} (hp:n33 (fun id=>M id\/h.next<=id) (retV Try.prog [.tmp 0] R) (retV Try.prog [.tmp 0] R) (fun _ _ _=>False) (fun v h=>R (.pan v) h) h):ACalls Try.prog 7 [] h M R:=
 fin (n:=94) (pl:=[(4,⟨[(none,(fr 0 1)),(some (0,false),(fr 1 2)),(none,(fr 3 2)),(some (4,false),(fr 5 2)),(none,(fr 7 2)),(some (8,false),(fr 9 2)),(none,(fr 11 2)),(some (12,false),(fr 13 2)),(none,(fr 15 2)),(some (16,false),(fr 17 2)),(none,(fr 19 2)),(some (20,false),(fr 21 2)),(none,(fr 23 1))],false,[],[]⟩),(6,⟨[(none,(fr 0 4)),(some (3,true),(fr 4 3)),(none,(fr 7 2)),(some (8,true),(fr 9 4)),(none,(fr 13 2)),(some (14,true),(fr 15 6)),(none,(fr 21 2)),(some (22,true),(fr 23 5)),(none,(fr 28 2)),(some (29,true),(fr 30 6)),(none,(fr 36 2)),(some (37,true),(fr 38 6)),(none,(fr 44 2))],false,[],[]⟩)]) (rs:=[.tmp 0]) (L:=rs) (fun c=>(a0 n33 c)) Try.mixed Try.func7 (fun c=>
(sq (a0 n33 c)
(sq (a0 n32 c)
(sq (a3 n31 1 2 3 c)
(sq (a5 n30 1 2 3 5 6 c)
(sn
(sn
(sm (a1 n1 0 c))
(gr (gn (a1 n14 1 c) (gx (a2 n13 1 52 c) (gn (a3 n12 1 52 55 c) (gx (a2 n11 1 57 c) (gn (a3 n10 1 57 61 c) (gx (a2 n9 1 63 c) (gn (a3 n8 1 63 69 c) (gx (a2 n7 1 71 c) (gn (a3 n6 1 71 76 c) (gx (a2 n5 1 78 c) (gn (a3 n4 1 78 84 c) (gx (a2 n3 1 86 c) (gl (a2 n2 86 92 c))))))))))))))))
(sn
(cd (a2 n16 1 48 c) (sl (a0 n15 c)) tr)
(gr (gn (a7 n29 1 2 3 5 6 8 9 c) (gx (a8 n28 1 2 3 5 6 8 9 25 c) (gn (a8 n27 1 2 5 6 8 9 25 27 c) (gx (a7 n26 1 2 5 6 8 9 29 c) (gn (a7 n25 1 5 6 8 9 29 31 c) (gx (a6 n24 1 5 6 8 9 33 c) (gn (a6 n23 1 5 8 9 33 35 c) (gx (a5 n22 1 5 8 9 37 c) (gn (a5 n21 1 8 9 37 39 c) (gx (a4 n20 1 8 9 41 c) (gn (a4 n19 1 8 41 43 c) (gx (a3 n18 1 8 45 c) (gl (a3 n17 1 45 47 c)))))))))))))))))))))) hp
attribute [simp] n1 n2 n3 n4 n5 n6 n7 n8 n9 n10 n11 n12 n13 n14 n15 n16 n17 n18 n19 n20 n21 n22 n23 n24 n25 n26 n27 n28 n29 n30 n31 n32 n33
end F7
namespace F8
abbrev rs:List Nat:=[2]
def n1:N1:=fun _ R _ _ _ x0 h=>
(strArg x0=false)/\pLen x0 fun t1=>
pBin Try.prog .gtr 3 true t1 (.sc (.int .i64 20000)) fun t2=>
R [t2] h
def n2:N1:=fun W R N E P x0 h=>
n1 W R N E P x0 h
theorem callsN {x0:AV} {h:AH} {M:WK} {R:RK} (hp:n2 (fun id=>M id\/h.next<=id) (retV Try.prog [.tmp 2] R) (retV Try.prog [.tmp 2] R) (fun _ _ _=>False) (fun v h=>R (.pan v) h) x0 h):ACalls Try.prog 8 [x0] h M R:=
 fin (n:=6) (pl:=[]) (rs:=[.tmp 2]) (L:=rs) (fun c=>(a1 n2 0 c)) Try.mixed Try.func8 (fun c=>
(sq (a1 n2 0 c)
(sl (a1 n1 0 c)))) hp
attribute [simp] n1 n2
end F8
namespace F12
abbrev rs:List Nat:=[2,3,4]
def n1:N2:=fun W R _ _ P x2 x5 h=>
aCall Try.prog W 10 [x5] h (fun t1 h2=>
pExt t1 0 fun t3=>
pExt t1 1 fun t4=>
pExt t1 2 fun t5=>
eStore (some 3) x2 t3 h2 W fun h6=>
R [x2,t4,t5] h6) P
def n2:N3:=fun W R _ _ _ x2 x6 x7 h=>
pBld (some ([.int .i64 0,.int .i64 0,.slice none 0 0],.inl [(0,1),(1,1),(2,1)])) [] fun t7=>
eStore (some 3) x2 t7 h W fun h8=>
R [x2,x6,x7] h8
def n3:N5:=fun W R N E P x2 x5 x6 x7 x15 h=>
aIf x15 (
n2 W R N E P x2 x6 x7 h) (
n1 W R N E P x2 x5 h)
def n4:N4:=fun W R N E P x2 x5 x6 x7 h=>
pBin Try.prog .neq 30 true x7 (.sc (.int .i64 0)) fun t9=>
n3 W R N E P x2 x5 x6 x7 t9 h
def n5:N2:=fun W R N E P x0 x2 h=>
aCall Try.prog W 24 [x0] h (fun t10 h11=>
pExt t10 0 fun t12=>
pExt t10 1 fun t13=>
pExt t10 2 fun t14=>
n4 W R N E P x2 t12 t13 t14 h11) P
def n6:N1:=fun W R N E P x0 h=>
eAlloc (some [.int .i64 0,.int .i64 0,.slice none 0 0]) 3 27 h fun t15 h16=>
n5 W R N E P x0 t15 h16
theorem callsN {x0:AV} {h:AH} {M:WK} {R:RK} (hp:n6 (fun id=>M id\/h.next<=id) (retV Try.prog [.cell 2 27,.tmp 3,.tmp 4] R) (retV Try.prog [.cell 2 27,.tmp 3,.tmp 4] R) (fun _ _ _=>False) (fun v h=>R (.pan v) h) x0 h):ACalls Try.prog 12 [x0] h M R:=
 fin (n:=24) (pl:=[]) (rs:=[.cell 2 27,.tmp 3,.tmp 4]) (L:=rs) (fun c=>(a1 n6 0 c)) Try.mixed Try.func12 (fun c=>
(sq (a1 n6 0 c)
(sq (a2 n5 0 2 c)
(sn
(sl (a2 n1 2 5 c))
(sq (a4 n4 2 5 6 7 c)
(cd (a5 n3 2 5 6 7 15 c) (sl (a3 n2 2 6 7 c)) tr)))))) hp
attribute [simp] n1 n2 n3 n4 n5 n6
end F12
end Go.Proofs.Ytjehibknlmehmaa
