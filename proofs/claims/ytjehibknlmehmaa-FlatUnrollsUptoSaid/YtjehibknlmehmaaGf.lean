/- Bodies of package flat; printed. No condition. -/
import Derived.Test.YtjehibknlmehmaaGl
set_option maxRecDepth 100000
namespace Go.Proofs.Ytjehibknlmehmaa
section
open Go.Ab
namespace F10
abbrev rs:List Nat:=[2,3,4]
def n1:N2:=fun W R _ _ _ x2 x5 h=>
pNil x5 fun t1=>
pFld (some 5) t1 fun t2=>
lLd (some true) (some 3) t2 h fun t3 _=>
eStore (some 3) x2 t3 h W fun h5=>
R [x2,(.sc (.int .i64 0)),(.sc (.int .i64 0))] h5
def n2:N2:=fun W R _ _ _ x2 x8 h=>
pBld (some ([.int .i64 0,.int .i64 0,.slice none 0 0],.inl [(0,1),(1,1),(2,1)])) [] fun t6=>
eStore (some 3) x2 t6 h W fun h7=>
R [x2,(.sc (.int .i64 0)),x8] h7
def n3:N3:=fun _ R _ _ _ x2 x3 x4 h=>
R [x2,x3,x4] h
def n4:N4:=fun W R N E P x2 x5 x7 x8 h=>
∃Hd:Nat->Nat,(∀i∈[4,7],h.obj (Hd i)≠none)/\(
pBld (some ([.int .i64 0,.int .i64 0,.slice none 0 0],.inl [(0,1),(1,1),(2,1)])) [] fun t8=>
pNil x5 fun t9=>
pFld (some 4) t9 fun t10=>
lLd (some false) (some 1) t10 h fun t11 i12=>
(i12=Hd 4)/\(
pIxA (some (1,none)) t11 x7 fun t13=>
lLd (some false) (some 1) t13 h fun t14 i15=>
(i15=Hd 7)/\(
eStore (some 3) x2 t8 h (banL W Hd [4,7]) fun h16=>
n3 W R N E P x2 t14 x8 h16)))
def n5:N5:=fun W R N E P x2 x5 x7 x8 x50 h=>
aIf x50 (
n4 W R N E P x2 x5 x7 x8 h) (
n2 W R N E P x2 x8 h)
def n6:N4:=fun W R N E P x2 x5 x7 x8 h=>
pNil x5 fun t17=>
pFld (some 4) t17 fun t18=>
lLd (some false) (some 1) t18 h fun t19 _=>
(strArg t19=false)/\pLen t19 fun t21=>
pBin Try.prog .lss 3 false x7 t21 fun t22=>
n5 W R N E P x2 x5 x7 x8 t22 h
def n7:N5:=fun W R N E P x2 x5 x7 x8 x43 h=>
aIf x43 (
n6 W R N E P x2 x5 x7 x8 h) (
n1 W R N E P x2 x5 h)
def n8:N4:=fun W R N E P x2 x5 x7 x8 h=>
pBin Try.prog .neq 30 true x8 (.sc (.int .i64 0)) fun t23=>
n7 W R N E P x2 x5 x7 x8 t23 h
def n9:N2:=fun W R N E P x2 x5 h=>
pNil x5 fun t24=>
pFld (some 5) t24 fun t25=>
lLd (some true) (some 3) t25 h fun t26 _=>
aCall Try.prog W 13 [t26] h (fun t28 h29=>
pExt t28 0 fun t30=>
pExt t28 1 fun t31=>
n8 W R N E P x2 x5 t30 t31 h29) P
def n10:N3:=fun _ R _ _ _ x2 x3 x4 h=>
R [x2,x3,x4] h
def n11:N2:=fun W R N E P x2 x5 h=>
∃Hd:Nat->Nat,(∀i∈[4],h.obj (Hd i)≠none)/\(
pBld (some ([.int .i64 0,.int .i64 0,.slice none 0 0],.inl [(0,1),(1,1),(2,1)])) [] fun t32=>
pNil x5 fun t33=>
pFld (some 8) t33 fun t34=>
lLd (some false) (some 1) t34 h fun t35 i36=>
(i36=Hd 4)/\(
eStore (some 3) x2 t32 h (banL W Hd [4]) fun h37=>
n10 W R N E P x2 t35 (.sc (.int .i64 115)) h37))
def n12:N3:=fun W R N E P x2 x5 x28 h=>
aIf x28 (
n11 W R N E P x2 x5 h) (
n9 W R N E P x2 x5 h)
def n13:N3:=fun W R N E P x0 x2 x5 h=>
(strArg x0=false)/\pLen x0 fun t38=>
pBld (some ([.bool false,.int .u64 0,.int .u64 0],.inl [(0,1),(1,1),(2,1)])) [] fun t39=>
aCall Try.prog W 22 [x5,(.sc (.int .i64 0)),t38,t39] h (fun t40 h41=>
pUn .not t40 fun t42=>
n12 W R N E P x2 x5 t42 h41) P
def n14:N3:=fun _ R _ _ _ x2 x3 x4 h=>
R [x2,x3,x4] h
def n15:N3:=fun W R N E P x2 x5 x6 h=>
∃Hd:Nat->Nat,(∀i∈[4],h.obj (Hd i)≠none)/\(
pBld (some ([.int .i64 0,.int .i64 0,.slice none 0 0],.inl [(0,1),(1,1),(2,1)])) [] fun t43=>
pNil x5 fun t44=>
pFld (some 8) t44 fun t45=>
lLd (some false) (some 1) t45 h fun t46 i47=>
(i47=Hd 4)/\(
eStore (some 3) x2 t43 h (banL W Hd [4]) fun h48=>
n14 W R N E P x2 t46 x6 h48))
def n16:N5:=fun W R N E P x0 x2 x5 x6 x16 h=>
aIf x16 (
n15 W R N E P x2 x5 x6 h) (
n13 W R N E P x0 x2 x5 h)
def n17:N4:=fun W R N E P x0 x2 x5 x6 h=>
pBin Try.prog .neq 30 true x6 (.sc (.int .i64 0)) fun t49=>
n16 W R N E P x0 x2 x5 x6 t49 h
def n18:N3:=fun W R N E P x0 x2 x5 h=>
(strArg x0=false)/\pLen x0 fun t50=>
aCall Try.prog W 21 [x5,(.sc (.int .i64 0)),t50,(.sc (.int .i64 0)),(.sc (.pointer none))] h (fun t51 h52=>
n17 W R N E P x0 x2 x5 t51 h52) P
def n19:N2:=fun W R N E P x0 x2 h=>
aCall Try.prog W 20 [x0] h (fun t53 h54=>
n18 W R N E P x0 x2 t53 h54) P
def n20:N1:=fun W R N E P x0 h=>
eAlloc (some [.int .i64 0,.int .i64 0,.slice none 0 0]) 3 27 h fun t55 h56=>
n19 W R N E P x0 t55 h56
theorem callsN{x0:AV}{h:AH}{M:WK}{R:RK}(hp:n20 (fun id=>M id\/h.next<=id) (retV Try.prog [.cell 2 27,.tmp 3,.tmp 4] R) (retV Try.prog [.cell 2 27,.tmp 3,.tmp 4] R) (fun _ _ _=>False) (fun v h=>R (.pan v) h) x0 h):ACalls Try.prog 10 [x0] h M R:=
 fin (n:=66) (pl:=[(4,⟨[(none,[(0,false),(1,false),(2,false),(3,false),(4,true),(5,false),(6,false),(7,false),(8,false)])],true,[],[]⟩),(6,⟨[(none,[(0,false),(1,false),(2,false),(3,false),(4,true),(5,false),(6,false),(7,false)])],true,[],[]⟩),(10,⟨[(none,[(0,false),(1,false),(2,false),(3,false),(4,true),(5,false),(6,false),(7,true),(8,false),(9,false),(10,false),(11,false)])],true,[],[]⟩)]) (rs:=[.cell 2 27,.tmp 3,.tmp 4]) (L:=rs) (fun c=>(a1 n20 0 c)) Try.mixed Try.func10 (fun c=>
(sq (a1 n20 0 c)
(sq (a2 n19 0 2 c)
(sn
(sn
(sn
(sl (a2 n1 2 5 c))
(sq (a2 n9 2 5 c)
(sq (a4 n8 2 5 7 8 c)
(cd (a5 n7 2 5 7 8 43 c) (sn
(sl (a2 n2 2 8 c))
(sq (a4 n6 2 5 7 8 c)
(cd (a5 n5 2 5 7 8 50 c) (sn
(sm (a3 n3 2 3 4 c))
(sm (a4 n4 2 5 7 8 c))) tr))) tr))))
(sq (a3 n13 0 2 5 c)
(cd (a3 n12 2 5 28 c) (sn
(sm (a3 n10 2 3 4 c))
(sm (a2 n11 2 5 c))) tr)))
(sq (a3 n18 0 2 5 c)
(sq (a4 n17 0 2 5 6 c)
(cd (a5 n16 0 2 5 6 16 c) (sn
(sm (a3 n14 2 3 4 c))
(sm (a3 n15 2 5 6 c))) tr))))))) hp
attribute [simp] n1 n2 n3 n4 n5 n6 n7 n8 n9 n10 n11 n12 n13 n14 n15 n16 n17 n18 n19 n20
end F10
namespace F20
abbrev rs:List Nat:=[2]
def n1:N1:=fun _ R _ _ _ x0 h=>
eMkM 63 h fun t1 h2=>
eMkM 63 h2 fun t3 h4=>
eMkM 64 h4 fun t5 h6=>
pBld (some ([.slice none 0 0,.map none,.map none,.map none,.slice none 0 0,.int .i64 0,.int .i64 0,.slice none 0 0,.int .i64 0],.inl [(0,1),(1,1),(2,1),(3,1),(4,1),(5,3),(8,1)])) [(0,x0),(1,t1),(2,t3),(3,t5)] fun t7=>
eBox 9 66 t7 h6 fun t8 h9=>
R [t8] h9
def n2:N1:=fun W R N E P x0 h=>
n1 W R N E P x0 h
theorem callsN{x0:AV}{h:AH}{M:WK}{R:RK}(hp:n2 (fun id=>M id\/h.next<=id) (retV Try.prog [.tmp 2] R) (retV Try.prog [.tmp 2] R) (fun _ _ _=>False) (fun v h=>R (.pan v) h) x0 h):ACalls Try.prog 20 [x0] h M R:=
 fin (n:=9) (pl:=[]) (rs:=[.tmp 2]) (L:=rs) (fun c=>(a1 n2 0 c)) Try.mixed Try.func20 (fun c=>
(sq (a1 n2 0 c)
(sl (a1 n1 0 c)))) hp
attribute [simp] n1 n2
end F20
namespace F38
abbrev rs:List Nat:=[10]
def n1:N0:=fun _ R _ _ _ h=>
R [(.sc (.int .i64 0))] h
def n2:N0:=fun _ R _ _ _ h=>
R [(.sc (.int .i64 100))] h
def n3:N0:=fun _ R _ _ _ h=>
R [(.sc (.int .i64 102))] h
def n4:N0:=fun _ R _ _ _ h=>
R [(.sc (.int .i64 100))] h
def n5:N0:=fun _ R _ _ _ h=>
R [(.sc (.int .i64 100))] h
def n6:N1:=fun W R N E P x59 h=>
aIf x59 (
n5 W R N E P h) (
n1 W R N E P h)
def n7:N2:=fun W R N E P x67 x70 h=>
pPick x67 x70 (.sc (.bool false)) fun t1=>
n6 W R N E P t1 h
def n8:N2:=fun W R N E P x6 x67 h=>
aIg true x67 (
pFld (some 0) x6 fun t2=>
lLd (some false) (some 1) t2 h fun t3 _=>
pBin Try.prog .neq 9 true t3 (.sc (.string ⟨#[114,101,112,101,97,116]⟩)) fun t5=>
n7 W R N E P x67 t5 h) (
n7 W R N E P x67 noA h)
def n9:N3:=fun W R N E P x6 x62 x65 h=>
pPick x62 x65 (.sc (.bool false)) fun t6=>
n8 W R N E P x6 t6 h
def n10:N2:=fun W R N E P x6 x62 h=>
aIg true x62 (
pFld (some 0) x6 fun t7=>
lLd (some false) (some 1) t7 h fun t8 _=>
pBin Try.prog .neq 9 true t8 (.sc (.string ⟨#[117,115,101]⟩)) fun t10=>
n9 W R N E P x6 x62 t10 h) (
n9 W R N E P x6 x62 noA h)
def n11:N2:=fun W R N E P x4 x6 h=>
pBin Try.prog .neq 87 true x4 (.sc (.pointer none)) fun t11=>
n10 W R N E P x6 t11 h
def n12:N3:=fun W R N E P x4 x6 x41 h=>
aIf x41 (
n4 W R N E P h) (
n11 W R N E P x4 x6 h)
def n13:N4:=fun W R N E P x4 x6 x44 x57 h=>
pPick x44 x57 (.sc (.bool false)) fun t12=>
n12 W R N E P x4 x6 t12 h
def n14:N5:=fun W R N E P x4 x6 x44 x53 x56 h=>
aIg true x44 (
pPick x53 (.sc (.bool true)) x56 fun t13=>
n13 W R N E P x4 x6 x44 t13 h) (
n13 W R N E P x4 x6 x44 noA h)
def n15:N4:=fun W R N E P x4 x6 x44 x53 h=>
aIg false x53 (
pFld (some 0) x6 fun t14=>
lLd (some false) (some 1) t14 h fun t15 _=>
pBin Try.prog .eql 9 true t15 (.sc (.string ⟨#[103,97,116,101]⟩)) fun t17=>
n14 W R N E P x4 x6 x44 x53 t17 h) (
n14 W R N E P x4 x6 x44 x53 noA h)
def n16:N5:=fun W R N E P x4 x6 x44 x48 x51 h=>
aIg true x44 (
pPick x48 (.sc (.bool true)) x51 fun t18=>
n15 W R N E P x4 x6 x44 t18 h) (
n15 W R N E P x4 x6 x44 noA h)
def n17:N4:=fun W R N E P x4 x6 x44 x48 h=>
aIg false x48 (
pFld (some 0) x6 fun t19=>
lLd (some false) (some 1) t19 h fun t20 _=>
pBin Try.prog .eql 9 true t20 (.sc (.string ⟨#[98,105,116,115]⟩)) fun t22=>
n16 W R N E P x4 x6 x44 x48 t22 h) (
n16 W R N E P x4 x6 x44 x48 noA h)
def n18:N3:=fun W R N E P x4 x6 x44 h=>
aIg true x44 (
pFld (some 0) x6 fun t23=>
lLd (some false) (some 1) t23 h fun t24 _=>
pBin Try.prog .eql 9 true t24 (.sc (.string ⟨#[113,117,98,105,116,115]⟩)) fun t26=>
n17 W R N E P x4 x6 x44 t26 h) (
n17 W R N E P x4 x6 x44 noA h)
def n19:N3:=fun W R N E P x3 x4 x6 h=>
pBin Try.prog .gtr 3 true x3 (.sc (.int .i64 0)) fun t27=>
n18 W R N E P x4 x6 t27 h
def n20:N4:=fun W R N E P x3 x4 x6 x38 h=>
aIf x38 (
n3 W R N E P h) (
n19 W R N E P x3 x4 x6 h)
def n21:N3:=fun W R N E P x3 x4 x6 h=>
pBin Try.prog .gtr 3 true x3 (.sc (.int .i64 32)) fun t28=>
n20 W R N E P x3 x4 x6 t28 h
def n22:N4:=fun W R N E P x3 x4 x6 x11 h=>
aIf x11 (
n2 W R N E P h) (
n21 W R N E P x3 x4 x6 h)
def n23:N5:=fun W R N E P x3 x4 x6 x32 x36 h=>
pPick x32 (.sc (.bool true)) x36 fun t29=>
n22 W R N E P x3 x4 x6 t29 h
def n24:N5:=fun W R N E P x2 x3 x4 x6 x32 h=>
aIg false x32 (
pFld (some 4) x6 fun t30=>
lLd (some false) (some 1) t30 h fun t31 _=>
pBin Try.prog .gtr 3 false t31 x2 fun t33=>
n23 W R N E P x3 x4 x6 x32 t33 h) (
n23 W R N E P x3 x4 x6 x32 noA h)
def n25:N6:=fun W R N E P x2 x3 x4 x6 x27 x30 h=>
pPick x27 (.sc (.bool true)) x30 fun t34=>
n24 W R N E P x2 x3 x4 x6 t34 h
def n26:N5:=fun W R N E P x2 x3 x4 x6 x27 h=>
aIg false x27 (
pFld (some 4) x6 fun t35=>
lLd (some false) (some 1) t35 h fun t36 _=>
pBin Try.prog .lss 3 true t36 (.sc (.int .i64 0)) fun t38=>
n25 W R N E P x2 x3 x4 x6 x27 t38 h) (
n25 W R N E P x2 x3 x4 x6 x27 noA h)
def n27:N6:=fun W R N E P x2 x3 x4 x6 x16 x25 h=>
pPick x16 (.sc (.bool true)) x25 fun t39=>
n26 W R N E P x2 x3 x4 x6 t39 h
def n28:N7:=fun W R N E P x2 x3 x4 x6 x16 x21 x24 h=>
aIg false x16 (
pPick x21 x24 (.sc (.bool false)) fun t40=>
n27 W R N E P x2 x3 x4 x6 x16 t40 h) (
n27 W R N E P x2 x3 x4 x6 x16 noA h)
def n29:N6:=fun W R N E P x2 x3 x4 x6 x16 x21 h=>
aIg true x21 (
pFld (some 4) x6 fun t41=>
lLd (some false) (some 1) t41 h fun t42 _=>
pBin Try.prog .neq 3 true t42 (.sc (.int .i64 0)) fun t44=>
n28 W R N E P x2 x3 x4 x6 x16 x21 t44 h) (
n28 W R N E P x2 x3 x4 x6 x16 x21 noA h)
def n30:N5:=fun W R N E P x2 x3 x4 x6 x16 h=>
aIg false x16 (
pFld (some 0) x6 fun t45=>
lLd (some false) (some 1) t45 h fun t46 _=>
aCall Try.prog W 59 [t46] h (fun t48 h49=>
pUn .not t48 fun t50=>
n29 W R N E P x2 x3 x4 x6 x16 t50 h49) P) (
n29 W R N E P x2 x3 x4 x6 x16 noA h)
def n31:N4:=fun W R N E P x2 x3 x4 x6 h=>
pFld (some 0) x6 fun t51=>
lLd (some false) (some 1) t51 h fun t52 _=>
aCall Try.prog W 58 [t52] h (fun t54 h55=>
pUn .not t54 fun t56=>
n30 W R N E P x2 x3 x4 x6 t56 h55) P
def n32:N4:=fun W R N E P x1 x2 x3 x4 h=>
eBox 6 42 x1 h fun t57 h58=>
n31 W R N E P x2 x3 x4 t57 h58
theorem callsN{x0 x1 x2 x3 x4:AV}{h:AH}{M:WK}{R:RK}(hp:n32 (fun id=>M id\/h.next<=id) (retV Try.prog [.tmp 10] R) (retV Try.prog [.tmp 10] R) (fun _ _ _=>False) (fun v h=>R (.pan v) h) x1 x2 x3 x4 h):ACalls Try.prog 38 [x0,x1,x2,x3,x4] h M R:=
 fin (n:=72) (pl:=[(1,⟨[(none,(fr 0 5)),(some (4,false),(fr 5 5)),(some (9,true),(fr 10 3)),(some (4,false),(fr 13 1)),(none,(fr 14 2)),(some (15,false),(fr 16 3)),(none,(fr 19 2)),(some (20,false),(fr 21 4)),(none,(fr 25 2))],false,[],[]⟩),(5,⟨[(none,(fr 0 3)),(some (2,true),(fr 3 4)),(some (6,false),(fr 7 3)),(some (2,true),(fr 10 2)),(some (11,false),(fr 12 3)),(some (2,true),(fr 15 1)),(none,(fr 16 2))],false,[],[]⟩),(7,⟨[(none,(fr 0 3)),(some (2,true),(fr 3 3)),(none,(fr 6 2)),(some (7,true),(fr 8 3)),(none,(fr 11 2))],false,[],[]⟩)]) (rs:=[.tmp 10]) (L:=rs) (fun c=>(a4 n32 1 2 3 4 c)) Try.mixed Try.func38 (fun c=>
(sq (a4 n32 1 2 3 4 c)
(sn
(sl (a0 n1 c))
(bk 0 (sn
(cd (a4 n22 3 4 6 11 c) (sl (a0 n2 c)) (sq (a3 n21 3 4 6 c)
(cd (a4 n20 3 4 6 38 c) (sl (a0 n3 c)) (sn
(cd (a3 n12 4 6 41 c) (sl (a0 n4 c)) (sn
(cd (a1 n6 59 c) (sl (a0 n5 c)) tr)
(gr (gn (a2 n11 4 6 c) (gx (a2 n10 6 62 c) (gn (a3 n9 6 62 65 c) (gx (a2 n8 6 67 c) (gl (a2 n7 67 70 c)))))))))
(gr (gn (a3 n19 3 4 6 c) (gx (a3 n18 4 6 44 c) (gx (a4 n17 4 6 44 48 c) (gx (a5 n16 4 6 44 48 51 c) (gx (a4 n15 4 6 44 53 c) (gx (a5 n14 4 6 44 53 56 c) (gl (a4 n13 4 6 44 57 c)))))))))))))
(gr (gn (a4 n31 2 3 4 6 c) (gx (a5 n30 2 3 4 6 16 c) (gx (a6 n29 2 3 4 6 16 21 c) (gx (a7 n28 2 3 4 6 16 21 24 c) (gn (a6 n27 2 3 4 6 16 25 c) (gx (a5 n26 2 3 4 6 27 c) (gn (a6 n25 2 3 4 6 27 30 c) (gx (a5 n24 2 3 4 6 32 c) (gl (a5 n23 3 4 6 32 36 c)))))))))))))))) hp
attribute [simp] n1 n2 n3 n4 n5 n6 n7 n8 n9 n10 n11 n12 n13 n14 n15 n16 n17 n18 n19 n20 n21 n22 n23 n24 n25 n26 n27 n28 n29 n30 n31 n32
end F38
namespace F58
abbrev rs:List Nat:=[2]
def n1:N1:=fun W R _ _ P x0 h=>
aCall Try.prog W 59 [x0] h (fun t1 h2=>
R [t1] h2) P
def n2:N0:=fun _ R _ _ _ h=>
R [(.sc (.bool true))] h
def n3:N2:=fun W R N E P x0 x4 h=>
aIf x4 (
n2 W R N E P h) (
n1 W R N E P x0 h)
def n4:N3:=fun W R N E P x0 x3 x4 h=>
aIf x4 (
n3 W R N E P x0 x4 h) (
pBin Try.prog .eql 9 true x3 (.sc (.string ⟨#[114,101,115,101,116]⟩)) fun t3=>
n3 W R N E P x0 t3 h)
def n5:N2:=fun W R N E P x0 x3 h=>
pBin Try.prog .eql 9 true x3 (.sc (.string ⟨#[109,101,97,115,117,114,101]⟩)) fun t4=>
n4 W R N E P x0 x3 t4 h
def n6:N3:=fun W R N E P x0 x3 x4 h=>
aIf x4 (
n3 W R N E P x0 x4 h) (
n5 W R N E P x0 x3 h)
def n7:N2:=fun W R N E P x0 x3 h=>
pBin Try.prog .eql 9 true x3 (.sc (.string ⟨#[117,115,101]⟩)) fun t5=>
n6 W R N E P x0 x3 t5 h
def n8:N3:=fun W R N E P x0 x3 x4 h=>
aIf x4 (
n3 W R N E P x0 x4 h) (
n7 W R N E P x0 x3 h)
def n9:N2:=fun W R N E P x0 x3 h=>
pBin Try.prog .eql 9 true x3 (.sc (.string ⟨#[98,105,116,115]⟩)) fun t6=>
n8 W R N E P x0 x3 t6 h
def n10:N3:=fun W R N E P x0 x3 x4 h=>
aIf x4 (
n3 W R N E P x0 x4 h) (
n9 W R N E P x0 x3 h)
def n11:N2:=fun W R N E P x0 x3 h=>
pBin Try.prog .eql 9 true x3 (.sc (.string ⟨#[113,117,98,105,116,115]⟩)) fun t7=>
n10 W R N E P x0 x3 t7 h
def n12:N1:=fun W R N E P x0 h=>
n11 W R N E P x0 x0 h
def n13:N1:=fun W R N E P x0 h=>
n12 W R N E P x0 h
theorem callsN{x0:AV}{h:AH}{M:WK}{R:RK}(hp:n13 (fun id=>M id\/h.next<=id) (retV Try.prog [.tmp 2] R) (retV Try.prog [.tmp 2] R) (fun _ _ _=>False) (fun v h=>R (.pan v) h) x0 h):ACalls Try.prog 58 [x0] h M R:=
 fin (n:=12) (pl:=[]) (rs:=[.tmp 2]) (L:=rs) (fun c=>(a1 n13 0 c)) Try.mixed Try.func58 (fun c=>
(sq (a1 n13 0 c)
(sn
(sl (a1 n1 0 c))
(sq (a1 n12 0 c)
(bk 0 (sn
(cd (a2 n3 0 4 c) (sl (a0 n2 c)) tr)
(sq (a2 n11 0 3 c)
(cd (a3 n10 0 3 4 c) tr (sq (a2 n9 0 3 c)
(cd (a3 n8 0 3 4 c) tr (sq (a2 n7 0 3 c)
(cd (a3 n6 0 3 4 c) tr (sq (a2 n5 0 3 c)
(cd (a3 n4 0 3 4 c) tr tr)))))))))))))) hp
attribute [simp] n1 n2 n3 n4 n5 n6 n7 n8 n9 n10 n11 n12 n13
end F58
namespace F59
abbrev rs:List Nat:=[2]
def n1:N1:=fun _ R _ _ _ x2 h=>
R [x2] h
def n2:N2:=fun W R N E P x9 x11 h=>
pPick x9 (.sc (.bool true)) x11 fun t1=>
n1 W R N E P t1 h
def n3:N2:=fun W R N E P x0 x9 h=>
aIg false x9 (
pBin Try.prog .eql 9 true x0 (.sc (.string ⟨#[105,102]⟩)) fun t2=>
n2 W R N E P x9 t2 h) (
n2 W R N E P x9 noA h)
def n4:N3:=fun W R N E P x0 x5 x7 h=>
pPick x5 (.sc (.bool true)) x7 fun t3=>
n3 W R N E P x0 t3 h
def n5:N2:=fun W R N E P x0 x5 h=>
aIg false x5 (
pBin Try.prog .eql 9 true x0 (.sc (.string ⟨#[114,101,112,101,97,116]⟩)) fun t4=>
n4 W R N E P x0 x5 t4 h) (
n4 W R N E P x0 x5 noA h)
def n6:N1:=fun W R N E P x0 h=>
pBin Try.prog .eql 9 true x0 (.sc (.string ⟨#[103,97,116,101]⟩)) fun t5=>
n5 W R N E P x0 t5 h
def n7:N1:=fun W R N E P x0 h=>
n6 W R N E P x0 h
theorem callsN{x0:AV}{h:AH}{M:WK}{R:RK}(hp:n7 (fun id=>M id\/h.next<=id) (retV Try.prog [.tmp 2] R) (retV Try.prog [.tmp 2] R) (fun _ _ _=>False) (fun v h=>R (.pan v) h) x0 h):ACalls Try.prog 59 [x0] h M R:=
 fin (n:=13) (pl:=[(1,⟨[(none,(fr 0 3)),(some (2,false),(fr 3 2)),(none,(fr 5 2)),(some (6,false),(fr 7 2)),(none,(fr 9 2))],false,[],[]⟩)]) (rs:=[.tmp 2]) (L:=rs) (fun c=>(a1 n7 0 c)) Try.mixed Try.func59 (fun c=>
(sq (a1 n7 0 c)
(sn
(sm (a1 n1 2 c))
(gr (gn (a1 n6 0 c) (gx (a2 n5 0 5 c) (gn (a3 n4 0 5 7 c) (gx (a2 n3 0 9 c) (gl (a2 n2 9 11 c)))))))))) hp
attribute [simp] n1 n2 n3 n4 n5 n6 n7
end F59
namespace F60
abbrev rs:List Nat:=[10]
def n1:N0:=fun _ R _ _ _ h=>
R [(.sc (.int .i64 0))] h
def n2:N2:=fun W R N E P x3 x6 h=>
pNil x3 fun t1=>
lLd (some false) (some 1) t1 h fun t2 _=>
pFld (some 3) x6 fun t4=>
lLd (some false) (some 1) t4 h fun t5 _=>
pBin Try.prog .add 3 false t2 t5 fun t7=>
pNil x3 fun t8=>
eStore (some 1) t8 t7 h W fun h9=>
n1 W R N E P h9
def n3:N3:=fun W R N E P x2 x3 x6 h=>
pFld (some 1) x6 fun t10=>
lLd (some false) (some 1) t10 h fun t11 _=>
pNil x3 fun t13=>
lLd (some false) (some 1) t13 h fun t14 _=>
pFld (some 3) x6 fun t16=>
lLd (some false) (some 1) t16 h fun t17 _=>
pBld (some ([.int .i64 0,.int .i64 0],.inl [(0,1),(1,1)])) [(0,t14),(1,t17)] fun t19=>
eMSet Try.prog (some (9,93)) x2 t11 t19 h W fun h20=>
n2 W R N E P x3 x6 h20
def n4:N0:=fun _ R _ _ _ h=>
R [(.sc (.int .i64 110))] h
def n5:N0:=fun _ R _ _ _ h=>
R [(.sc (.int .i64 112))] h
def n6:N0:=fun _ R _ _ _ h=>
R [(.sc (.int .i64 1))] h
def n7:N4:=fun W R N E P x2 x3 x6 x20 h=>
aIf x20 (
n6 W R N E P h) (
n3 W R N E P x2 x3 x6 h)
def n8:N4:=fun W R N E P x2 x3 x4 x6 h=>
pFld (some 3) x6 fun t21=>
lLd (some false) (some 1) t21 h fun t22 _=>
pNil x3 fun t24=>
lLd (some false) (some 1) t24 h fun t25 _=>
pBin Try.prog .sub 3 false x4 t25 fun t27=>
pBin Try.prog .gtr 3 false t22 t27 fun t28=>
n7 W R N E P x2 x3 x6 t28 h
def n9:N5:=fun W R N E P x2 x3 x4 x6 x16 h=>
aIf x16 (
n5 W R N E P h) (
n8 W R N E P x2 x3 x4 x6 h)
def n10:N4:=fun W R N E P x2 x3 x4 x6 h=>
pFld (some 3) x6 fun t29=>
lLd (some false) (some 1) t29 h fun t30 _=>
pBin Try.prog .lss 3 true t30 (.sc (.int .i64 1)) fun t32=>
n9 W R N E P x2 x3 x4 x6 t32 h
def n11:N5:=fun W R N E P x2 x3 x4 x6 x11 h=>
aIf x11 (
n4 W R N E P h) (
n10 W R N E P x2 x3 x4 x6 h)
def n12:N5:=fun W R N E P x0 x2 x3 x4 x6 h=>
pFld (some 1) x6 fun t33=>
lLd (some false) (some 1) t33 h fun t34 _=>
aCall Try.prog W 84 [x0,t34] h (fun t36 h37=>
n11 W R N E P x2 x3 x4 x6 t36 h37) P
def n13:N5:=fun W R N E P x0 x1 x2 x3 x4 h=>
eBox 6 42 x1 h fun t38 h39=>
n12 W R N E P x0 x2 x3 x4 t38 h39
theorem callsN{x0 x1 x2 x3 x4:AV}{h:AH}{M:WK}{R:RK}(hp:n13 (fun id=>M id\/h.next<=id) (retV Try.prog [.tmp 10] R) (retV Try.prog [.tmp 10] R) (fun _ _ _=>False) (fun v h=>R (.pan v) h) x0 x1 x2 x3 x4 h):ACalls Try.prog 60 [x0,x1,x2,x3,x4] h M R:=
 fin (n:=45) (pl:=[(5,⟨[(none,(fr 0 9))],false,[],[]⟩),(7,⟨[(none,(fr 0 10))],false,[],[]⟩),(8,⟨[(none,(fr 0 8))],false,[],[]⟩)]) (rs:=[.tmp 10]) (L:=rs) (fun c=>(a5 n13 0 1 2 3 4 c)) Try.mixed Try.func60 (fun c=>
(sq (a5 n13 0 1 2 3 4 c)
(sn
(sq (a3 n3 2 3 6 c)
(sq (a2 n2 3 6 c)
(sl (a0 n1 c))))
(bk 0 (sq (a5 n12 0 2 3 4 6 c)
(cd (a5 n11 2 3 4 6 11 c) (sl (a0 n4 c)) (sq (a4 n10 2 3 4 6 c)
(cd (a5 n9 2 3 4 6 16 c) (sl (a0 n5 c)) (sq (a4 n8 2 3 4 6 c)
(cd (a4 n7 2 3 6 20 c) (sl (a0 n6 c)) tr)))))))))) hp
attribute [simp] n1 n2 n3 n4 n5 n6 n7 n8 n9 n10 n11 n12 n13
end F60
namespace F61
abbrev rs:List Nat:=[6]
def n1:N0:=fun _ R _ _ _ h=>
R [(.sc (.int .i64 0))] h
def n2:N3:=fun W R N E P x0 x4 x7 h=>
pNil x0 fun t1=>
pFld (some 3) t1 fun t2=>
lLd (some false) (some 1) t2 h fun t3 _=>
pFld (some 1) x4 fun t5=>
lLd (some false) (some 1) t5 h fun t6 _=>
eMSet Try.prog (some (9,87)) t3 t6 x7 h W fun h8=>
n1 W R N E P h8
def n3:N7:=fun _ _ N _ _ x0 x4 x7 x10 x47 x48 x49 h=>
pBin Try.prog .add 3 true x49 (.sc (.int .i64 1)) fun t9=>
N [x0,x4,x7,x10,x47,x48,t9] h
def n4:N8:=fun W R N E P x0 x4 x7 x10 x12 x47 x48 x49 h=>
pNil x7 fun t10=>
pFld (some 1) t10 fun t11=>
lLd (some false) (some 1) t11 h fun t12 _=>
pFld (some 0) x12 fun t14=>
lLd (some false) (some 1) t14 h fun t15 _=>
eBSl (some (1,9,[.string ⟨#[]⟩])) 1 [(0,t15)] h fun t17 h18=>
eApp (some (1,16,9)) t12 t17 h18 W fun t19 h20=>
pNil x7 fun t21=>
pFld (some 1) t21 fun t22=>
eStore (some 1) t22 t19 h20 W fun h23=>
n3 W R N E P x0 x4 x7 x10 x47 x48 x49 h23
def n5:N9:=fun W R N E P x0 x4 x7 x10 x11 x12 x47 x48 x49 h=>
pFld (some 0) x12 fun t24=>
lLd (some false) (some 1) t24 h fun t25 _=>
eMSet Try.prog (some (9,3)) x10 t25 x11 h W fun h27=>
n4 W R N E P x0 x4 x7 x10 x12 x47 x48 x49 h27
def n6:N0:=fun _ R _ _ _ h=>
R [(.sc (.int .i64 113))] h
def n7:N10:=fun W R N E P x0 x4 x7 x10 x11 x12 x47 x48 x49 x61 h=>
aIf x61 (
n6 W R N E P h) (
n5 W R N E P x0 x4 x7 x10 x11 x12 x47 x48 x49 h)
def n8:N10:=fun W R N E P x0 x4 x7 x10 x11 x12 x14 x47 x48 x49 h=>
n7 W R N E P x0 x4 x7 x10 x11 x12 x47 x48 x49 x14 h
def n9:N9:=fun W R N E P x0 x4 x7 x10 x11 x12 x47 x48 x49 h=>
pFld (some 0) x12 fun t28=>
lLd (some false) (some 1) t28 h fun t29 _=>
lLook Try.prog (some (9,3)) x10 t29 true h fun t31 _=>
pExt t31 0 fun t33=>
pExt t31 1 fun t34=>
n8 W R N E P x0 x4 x7 x10 x11 x12 t34 x47 x48 x49 h
def n10:N7:=fun W R N E P x0 x4 x7 x10 x47 x48 x49 h=>
pIxA (some (2,none)) x47 x49 fun t35=>
lLd (some true) (some 2) t35 h fun t36 _=>
eAlloc (some [.string ⟨#[]⟩,.int .i64 0]) 2 44 h fun t38 h39=>
eStore (some 2) t38 t36 h39 W fun h40=>
n9 W R N E P x0 x4 x7 x10 x49 t38 x47 x48 x49 h40
def n11:N8:=fun W R N E P x0 x4 x7 x10 x47 x48 x49 x50 h=>
aIf x50 (
n10 W R N E P x0 x4 x7 x10 x47 x48 x49 h) (
E 2 [x0,x4,x7] h)
def n12:N7:=fun W R N E P x0 x4 x7 x10 x47 x48 x49 h=>
pBin Try.prog .lss 3 false x49 x48 fun t41=>
n11 W R N E P x0 x4 x7 x10 x47 x48 x49 t41 h
def g1_:GK:=fun W R N E P N' vs h=>n12 W R N' (fun(i:Nat) (vs:List AV) (h:AH)=>if i=2 then n2 W R N E P (vs.getD 0 noA) (vs.getD 1 noA) (vs.getD 2 noA) h else E i vs h) P (vs.getD 0 noA) (vs.getD 1 noA) (vs.getD 2 noA) (vs.getD 3 noA) (vs.getD 4 noA) (vs.getD 5 noA) (vs.getD 6 noA) h
def n13:N7:=fun W R N E P x0 x4 x7 x10 x47 x48 x49 h=>
vLoop (g1_ W R N E P) [x0,x4,x7,x10,x47,x48,x49] h
def n14:N4:=fun W R N E P x0 x4 x7 x10 h=>
pFld (some 2) x4 fun t42=>
lLd (some false) (some 1) t42 h fun t43 _=>
(strArg t43=false)/\pLen t43 fun t45=>
n13 W R N E P x0 x4 x7 x10 t43 t45 (.sc (.int .i64 0)) h
def n15:N3:=fun W R N E P x0 x4 x7 h=>
eMkM 120 h fun t46 h47=>
n14 W R N E P x0 x4 x7 t46 h47
def n16:N6:=fun _ _ N _ _ x0 x4 x7 x35 x36 x37 h=>
pBin Try.prog .add 3 true x37 (.sc (.int .i64 1)) fun t48=>
N [x0,x4,x7,x35,x36,t48] h
def n17:N0:=fun _ R _ _ _ h=>
R [(.sc (.int .i64 112))] h
def n18:N7:=fun W R N E P x0 x4 x7 x35 x36 x37 x43 h=>
aIf x43 (
n17 W R N E P h) (
n16 W R N E P x0 x4 x7 x35 x36 x37 h)
def n19:N7:=fun W R N E P x0 x4 x7 x9 x35 x36 x37 h=>
pFld (some 1) x9 fun t49=>
lLd (some false) (some 1) t49 h fun t50 _=>
pBin Try.prog .neq 3 true t50 (.sc (.int .i64 (-1))) fun t52=>
n18 W R N E P x0 x4 x7 x35 x36 x37 t52 h
def n20:N6:=fun W R N E P x0 x4 x7 x35 x36 x37 h=>
pIxA (some (2,none)) x35 x37 fun t53=>
lLd (some true) (some 2) t53 h fun t54 _=>
eAlloc (some [.string ⟨#[]⟩,.int .i64 0]) 2 44 h fun t56 h57=>
eStore (some 2) t56 t54 h57 W fun h58=>
n19 W R N E P x0 x4 x7 t56 x35 x36 x37 h58
def n21:N7:=fun W R N E P x0 x4 x7 x35 x36 x37 x38 h=>
aIf x38 (
n20 W R N E P x0 x4 x7 x35 x36 x37 h) (
E 0 [x0,x4,x7] h)
def n22:N6:=fun W R N E P x0 x4 x7 x35 x36 x37 h=>
pBin Try.prog .lss 3 false x37 x36 fun t59=>
n21 W R N E P x0 x4 x7 x35 x36 x37 t59 h
def g2_:GK:=fun W R N E P N' vs h=>n22 W R N' (fun(i:Nat) (vs:List AV) (h:AH)=>if i=0 then n15 W R N E P (vs.getD 0 noA) (vs.getD 1 noA) (vs.getD 2 noA) h else E i vs h) P (vs.getD 0 noA) (vs.getD 1 noA) (vs.getD 2 noA) (vs.getD 3 noA) (vs.getD 4 noA) (vs.getD 5 noA) h
def n23:N6:=fun W R N E P x0 x4 x7 x35 x36 x37 h=>
vLoop (g2_ W R N E P) [x0,x4,x7,x35,x36,x37] h
def n24:N3:=fun W R N E P x0 x4 x7 h=>
pFld (some 2) x4 fun t60=>
lLd (some false) (some 1) t60 h fun t61 _=>
(strArg t61=false)/\pLen t61 fun t63=>
n23 W R N E P x0 x4 x7 t61 t63 (.sc (.int .i64 0)) h
def n25:N3:=fun W R N E P x0 x2 x4 h=>
pFld (some 1) x4 fun t64=>
lLd (some false) (some 1) t64 h fun t65 _=>
pBin Try.prog .add 3 true x2 (.sc (.int .i64 1)) fun t67=>
pBin Try.prog .add 3 true x2 (.sc (.int .i64 1)) fun t68=>
pFld (some 4) x4 fun t69=>
lLd (some false) (some 1) t69 h fun t70 _=>
pBin Try.prog .add 3 false t68 t70 fun t72=>
pBld (some ([.string ⟨#[]⟩,.slice none 0 0,.int .i64 0,.int .i64 0,.int .i64 0,.int .i64 0,.bool false],.inl [(0,1),(1,1),(2,1),(3,1),(4,1),(5,1),(6,1)])) [(0,t65),(2,t67),(3,t72),(4,(.sc (.int .i64 1)))] fun t73=>
eBox 7 91 t73 h fun t74 h75=>
n24 W R N E P x0 x4 t74 h75
def n26:N0:=fun _ R _ _ _ h=>
R [(.sc (.int .i64 111))] h
def n27:N4:=fun W R N E P x0 x2 x4 x22 h=>
aIf x22 (
n26 W R N E P h) (
n25 W R N E P x0 x2 x4 h)
def n28:N3:=fun W R N E P x0 x2 x4 h=>
pFld (some 2) x4 fun t76=>
lLd (some false) (some 1) t76 h fun t77 _=>
(strArg t77=false)/\pLen t77 fun t79=>
pBin Try.prog .eql 3 true t79 (.sc (.int .i64 0)) fun t80=>
n27 W R N E P x0 x2 x4 t80 h
def n29:N0:=fun _ R _ _ _ h=>
R [(.sc (.int .i64 110))] h
def n30:N4:=fun W R N E P x0 x2 x4 x18 h=>
aIf x18 (
n29 W R N E P h) (
n28 W R N E P x0 x2 x4 h)
def n31:N3:=fun W R N E P x0 x2 x4 h=>
pFld (some 1) x4 fun t81=>
lLd (some false) (some 1) t81 h fun t82 _=>
aCall Try.prog W 84 [x0,t82] h (fun t84 h85=>
n30 W R N E P x0 x2 x4 t84 h85) P
def n32:N3:=fun W R N E P x0 x1 x2 h=>
eBox 6 42 x1 h fun t86 h87=>
n31 W R N E P x0 x2 t86 h87
theorem callsN{x0 x1 x2:AV}{h:AH}{M:WK}{R:RK}(hp:n32 (fun id=>M id\/h.next<=id) (retV Try.prog [.tmp 6] R) (retV Try.prog [.tmp 6] R) (fun _ _ _=>False) (fun v h=>R (.pan v) h) x0 x1 x2 h):ACalls Try.prog 61 [x0,x1,x2] h M R:=
 fin (n:=85) (pl:=[(20,⟨[(none,(fr 0 12))],false,[],[]⟩),(22,⟨[(none,(fr 0 8))],false,[],[]⟩)]) (rs:=[.tmp 6]) (L:=rs) (fun c=>(a3 n32 0 1 2 c)) Try.mixed Try.func61 (fun c=>
(sq (a3 n32 0 1 2 c)
(sn
(sn
(sq (a3 n25 0 2 4 c)
(sn
(sq (a3 n15 0 4 7 c)
(sn
(sq (a3 n2 0 4 7 c)
(sl (a0 n1 c)))
(sq (a4 n14 0 4 7 10 c)
(bk 2 (lp [0,4,7,10,47,48,49] rs [(2,[0,4,7])] (a7 n13 0 4 7 10 47 48 49 c) g1_ (fun i vs h=>if i=2 then n2 c.W c.R c.N c.E c.P (vs.getD 0 noA) (vs.getD 1 noA) (vs.getD 2 noA) h else c.E i vs h) (.b (.t .o)) fun c=>
(sq (a7 n12 0 4 7 10 47 48 49 c)
(sn
(sn
(sm (a7 n3 0 4 7 10 47 48 49 c))
(bk 3 (sq (a7 n10 0 4 7 10 47 48 49 c)
(sn
(sq (a9 n5 0 4 7 10 11 12 47 48 49 c)
(sm (a8 n4 0 4 7 10 12 47 48 49 c)))
(sq (a9 n9 0 4 7 10 11 12 47 48 49 c)
(sq (a10 n8 0 4 7 10 11 12 14 47 48 49 c)
(cd (a10 n7 0 4 7 10 11 12 47 48 49 61 c) (sl (a0 n6 c)) tr)))))))
(cd (a8 n11 0 4 7 10 47 48 49 50 c) tr tr))))))))
(sq (a3 n24 0 4 7 c)
(bk 0 (lp [0,4,7,35,36,37] rs [(0,[0,4,7])] (a6 n23 0 4 7 35 36 37 c) g2_ (fun i vs h=>if i=0 then n15 c.W c.R c.N c.E c.P (vs.getD 0 noA) (vs.getD 1 noA) (vs.getD 2 noA) h else c.E i vs h) (.b (.t .o)) fun c=>
(sq (a6 n22 0 4 7 35 36 37 c)
(sn
(sn
(sm (a6 n16 0 4 7 35 36 37 c))
(bk 1 (sq (a6 n20 0 4 7 35 36 37 c)
(sq (a7 n19 0 4 7 9 35 36 37 c)
(cd (a7 n18 0 4 7 35 36 37 43 c) (sl (a0 n17 c)) tr)))))
(cd (a7 n21 0 4 7 35 36 37 38 c) tr tr))))))))
(sq (a3 n28 0 2 4 c)
(cd (a4 n27 0 2 4 22 c) (sl (a0 n26 c)) tr)))
(sq (a3 n31 0 2 4 c)
(cd (a4 n30 0 2 4 18 c) (sl (a0 n29 c)) tr))))) hp
attribute [simp] n1 n2 n3 n4 n5 n6 n7 n8 n9 n10 n11 n12 n14 n15 n16 n17 n18 n19 n20 n21 n22 n24 n25 n26 n27 n28 n29 n30 n31 n32
end F61
namespace F62
abbrev rs:List Nat:=[6]
def n1:N0:=fun _ R _ _ _ h=>
R [(.sc (.int .i64 0))] h
def n2:N2:=fun W R N E P x2 x8 h=>
pNil x2 fun t1=>
pFld (some 4) t1 fun t2=>
lLd (some false) (some 1) t2 h fun t3 _=>
pBin Try.prog .add 3 true x8 (.sc (.int .i64 1)) fun t5=>
pMM false t3 t5 fun t6=>
pNil x2 fun t7=>
pFld (some 4) t7 fun t8=>
eStore (some 1) t8 t6 h W fun h9=>
n1 W R N E P h9
def n3:N0:=fun _ R _ _ _ h=>
R [(.sc (.int .i64 102))] h
def n4:N3:=fun W R N E P x2 x8 x120 h=>
aIf x120 (
n3 W R N E P h) (
n2 W R N E P x2 x8 h)
def n5:N2:=fun W R N E P x2 x8 h=>
pBin Try.prog .add 3 true x8 (.sc (.int .i64 1)) fun t10=>
pBin Try.prog .gtr 3 true t10 (.sc (.int .i64 32)) fun t11=>
n4 W R N E P x2 x8 t11 h
def n6:N3:=fun W R N E P x2 x8 x117 h=>
aIf x117 (
n5 W R N E P x2 x8 h) (
n1 W R N E P h)
def n7:N2:=fun W R N E P x2 x8 h=>
pBin Try.prog .neq 87 true x2 (.sc (.pointer none)) fun t12=>
n6 W R N E P x2 x8 t12 h
def n8:N6:=fun _ _ N _ _ x2 x8 x14 x98 x99 x100 h=>
pBin Try.prog .add 3 true x100 (.sc (.int .i64 1)) fun t13=>
N [x2,x8,x14,x98,x99,t13] h
def n9:N8:=fun W R N E P x2 x8 x14 x15 x16 x98 x99 x100 h=>
lLd (some true) (some 2) x16 h fun t14 _=>
eMSet Try.prog (some (44,3)) x14 t14 x15 h W fun h16=>
n8 W R N E P x2 x8 x14 x98 x99 x100 h16
def n10:N0:=fun _ R _ _ _ h=>
R [(.sc (.int .i64 113))] h
def n11:N9:=fun W R N E P x2 x8 x14 x15 x16 x98 x99 x100 x111 h=>
aIf x111 (
n10 W R N E P h) (
n9 W R N E P x2 x8 x14 x15 x16 x98 x99 x100 h)
def n12:N9:=fun W R N E P x2 x8 x14 x15 x16 x18 x98 x99 x100 h=>
n11 W R N E P x2 x8 x14 x15 x16 x98 x99 x100 x18 h
def n13:N8:=fun W R N E P x2 x8 x14 x15 x16 x98 x99 x100 h=>
lLd (some true) (some 2) x16 h fun t17 _=>
lLook Try.prog (some (44,3)) x14 t17 true h fun t19 _=>
pExt t19 0 fun t21=>
pExt t19 1 fun t22=>
n12 W R N E P x2 x8 x14 x15 x16 t22 x98 x99 x100 h
def n14:N6:=fun W R N E P x2 x8 x14 x98 x99 x100 h=>
pIxA (some (2,none)) x98 x100 fun t23=>
lLd (some true) (some 2) t23 h fun t24 _=>
eAlloc (some [.string ⟨#[]⟩,.int .i64 0]) 2 44 h fun t26 h27=>
eStore (some 2) t26 t24 h27 W fun h28=>
n13 W R N E P x2 x8 x14 x100 t26 x98 x99 x100 h28
def n15:N7:=fun W R N E P x2 x8 x14 x98 x99 x100 x101 h=>
aIf x101 (
n14 W R N E P x2 x8 x14 x98 x99 x100 h) (
E 2 [x2,x8] h)
def n16:N6:=fun W R N E P x2 x8 x14 x98 x99 x100 h=>
pBin Try.prog .lss 3 false x100 x99 fun t29=>
n15 W R N E P x2 x8 x14 x98 x99 x100 t29 h
def g1_:GK:=fun W R N E P N' vs h=>n16 W R N' (fun(i:Nat) (vs:List AV) (h:AH)=>if i=2 then n7 W R N E P (vs.getD 0 noA) (vs.getD 1 noA) h else E i vs h) P (vs.getD 0 noA) (vs.getD 1 noA) (vs.getD 2 noA) (vs.getD 3 noA) (vs.getD 4 noA) (vs.getD 5 noA) h
def n17:N6:=fun W R N E P x2 x8 x14 x98 x99 x100 h=>
vLoop (g1_ W R N E P) [x2,x8,x14,x98,x99,x100] h
def n18:N4:=fun W R N E P x2 x4 x8 x14 h=>
pFld (some 2) x4 fun t30=>
lLd (some false) (some 1) t30 h fun t31 _=>
(strArg t31=false)/\pLen t31 fun t33=>
n17 W R N E P x2 x8 x14 t31 t33 (.sc (.int .i64 0)) h
def n19:N3:=fun W R N E P x2 x4 x8 h=>
eMkM 144 h fun t34 h35=>
n18 W R N E P x2 x4 x8 t34 h35
def n20:N7:=fun _ _ N _ _ x0 x2 x4 x8 x67 x68 x69 h=>
pBin Try.prog .add 3 true x69 (.sc (.int .i64 1)) fun t36=>
N [x0,x2,x4,x8,x67,x68,t36] h
def n21:N0:=fun _ R _ _ _ h=>
R [(.sc (.int .i64 110))] h
def n22:N8:=fun W R N E P x0 x2 x4 x8 x67 x68 x69 x94 h=>
aIf x94 (
n21 W R N E P h) (
n20 W R N E P x0 x2 x4 x8 x67 x68 x69 h)
def n23:N8:=fun W R N E P x0 x2 x4 x8 x12 x67 x68 x69 h=>
pNil x2 fun t37=>
pFld (some 1) t37 fun t38=>
lLd (some false) (some 1) t38 h fun t39 _=>
pFld (some 0) x12 fun t41=>
lLd (some false) (some 1) t41 h fun t42 _=>
aCall Try.prog noW 85 [t39,t42] h (fun t44 h45=>
pUn .not t44 fun t46=>
n22 W R N E P x0 x2 x4 x8 x67 x68 x69 t46 h45) P
def n24:N0:=fun _ R _ _ _ h=>
R [(.sc (.int .i64 112))] h
def n25:N9:=fun W R N E P x0 x2 x4 x8 x12 x67 x68 x69 x86 h=>
aIf x86 (
n24 W R N E P h) (
n23 W R N E P x0 x2 x4 x8 x12 x67 x68 x69 h)
def n26:N8:=fun W R N E P x0 x2 x4 x8 x12 x67 x68 x69 h=>
pFld (some 1) x12 fun t47=>
lLd (some false) (some 1) t47 h fun t48 _=>
pBin Try.prog .neq 3 true t48 (.sc (.int .i64 (-1))) fun t50=>
n25 W R N E P x0 x2 x4 x8 x12 x67 x68 x69 t50 h
def n27:N7:=fun W R N E P x0 x2 x4 x8 x67 x68 x69 h=>
n20 W R N E P x0 x2 x4 x8 x67 x68 x69 h
def n28:N1:=fun _ R _ _ _ x13 h=>
R [x13] h
def n29:N9:=fun W R N E P x0 x2 x4 x8 x13 x67 x68 x69 x82 h=>
aIf x82 (
n28 W R N E P x13 h) (
n27 W R N E P x0 x2 x4 x8 x67 x68 x69 h)
def n30:N8:=fun W R N E P x0 x2 x4 x8 x13 x67 x68 x69 h=>
pBin Try.prog .neq 30 true x13 (.sc (.int .i64 0)) fun t51=>
n29 W R N E P x0 x2 x4 x8 x13 x67 x68 x69 t51 h
def n31:N8:=fun W R N E P x0 x2 x4 x8 x12 x67 x68 x69 h=>
pNil x0 fun t52=>
pFld (some 1) t52 fun t53=>
lLd (some false) (some 1) t53 h fun t54 _=>
lLd (some true) (some 2) x12 h fun t56 _=>
aCall Try.prog noW 63 [t54,t56] h (fun t58 h59=>
n30 W R N E P x0 x2 x4 x8 t58 x67 x68 x69 h59) P
def n32:N9:=fun W R N E P x0 x2 x4 x8 x12 x67 x68 x69 x74 h=>
aIf x74 (
n31 W R N E P x0 x2 x4 x8 x12 x67 x68 x69 h) (
n26 W R N E P x0 x2 x4 x8 x12 x67 x68 x69 h)
def n33:N8:=fun W R N E P x0 x2 x4 x8 x12 x67 x68 x69 h=>
pBin Try.prog .eql 87 true x2 (.sc (.pointer none)) fun t60=>
n32 W R N E P x0 x2 x4 x8 x12 x67 x68 x69 t60 h
def n34:N7:=fun W R N E P x0 x2 x4 x8 x67 x68 x69 h=>
pIxA (some (2,none)) x67 x69 fun t61=>
lLd (some true) (some 2) t61 h fun t62 _=>
eAlloc (some [.string ⟨#[]⟩,.int .i64 0]) 2 44 h fun t64 h65=>
eStore (some 2) t64 t62 h65 W fun h66=>
n33 W R N E P x0 x2 x4 x8 t64 x67 x68 x69 h66
def n35:N8:=fun W R N E P x0 x2 x4 x8 x67 x68 x69 x70 h=>
aIf x70 (
n34 W R N E P x0 x2 x4 x8 x67 x68 x69 h) (
E 0 [x2,x4,x8] h)
def n36:N7:=fun W R N E P x0 x2 x4 x8 x67 x68 x69 h=>
pBin Try.prog .lss 3 false x69 x68 fun t67=>
n35 W R N E P x0 x2 x4 x8 x67 x68 x69 t67 h
def g2_:GK:=fun W R N E P N' vs h=>n36 W R N' (fun(i:Nat) (vs:List AV) (h:AH)=>if i=0 then n19 W R N E P (vs.getD 0 noA) (vs.getD 1 noA) (vs.getD 2 noA) h else E i vs h) P (vs.getD 0 noA) (vs.getD 1 noA) (vs.getD 2 noA) (vs.getD 3 noA) (vs.getD 4 noA) (vs.getD 5 noA) (vs.getD 6 noA) h
def n37:N7:=fun W R N E P x0 x2 x4 x8 x67 x68 x69 h=>
vLoop (g2_ W R N E P) [x0,x2,x4,x8,x67,x68,x69] h
def n38:N4:=fun W R N E P x0 x2 x4 x8 h=>
pFld (some 2) x4 fun t68=>
lLd (some false) (some 1) t68 h fun t69 _=>
(strArg t69=false)/\pLen t69 fun t71=>
n37 W R N E P x0 x2 x4 x8 t69 t71 (.sc (.int .i64 0)) h
def n39:N0:=fun _ R _ _ _ h=>
R [(.sc (.int .i64 111))] h
def n40:N5:=fun W R N E P x0 x2 x4 x8 x65 h=>
aIf x65 (
n39 W R N E P h) (
n38 W R N E P x0 x2 x4 x8 h)
def n41:N5:=fun W R N E P x0 x2 x4 x7 x8 h=>
pFld (some 2) x4 fun t72=>
lLd (some false) (some 1) t72 h fun t73 _=>
(strArg t73=false)/\pLen t73 fun t75=>
pBin Try.prog .neq 3 false t75 x7 fun t76=>
n40 W R N E P x0 x2 x4 x8 t76 h
def n42:N0:=fun _ R _ _ _ h=>
R [(.sc (.int .i64 80))] h
def n43:N6:=fun W R N E P x0 x2 x4 x7 x8 x60 h=>
aIf x60 (
n42 W R N E P h) (
n41 W R N E P x0 x2 x4 x7 x8 h)
def n44:N5:=fun W R N E P x0 x2 x4 x7 x8 h=>
pBin Try.prog .eql 3 true x7 (.sc (.int .i64 0)) fun t77=>
n43 W R N E P x0 x2 x4 x7 x8 t77 h
def n45:N7:=fun W R N E P x0 x2 x4 x7 x8 x9 x49 h=>
aIf x49 (
pNil x9 fun t78=>
pFld (some 1) t78 fun t79=>
lLd (some false) (some 1) t79 h fun t80 _=>
(strArg t80=false)/\pLen t80 fun t82=>
pNil x9 fun t83=>
pFld (some 4) t83 fun t84=>
lLd (some false) (some 1) t84 h fun t85 _=>
n44 W R N E P x0 x2 x4 t82 t85 h) (
n44 W R N E P x0 x2 x4 x7 x8 h)
def n46:N8:=fun W R N E P x0 x2 x4 x7 x8 x9 x44 x48 h=>
pPick x44 x48 (.sc (.bool false)) fun t87=>
n45 W R N E P x0 x2 x4 x7 x8 x9 t87 h
def n47:N7:=fun W R N E P x0 x2 x4 x7 x8 x9 x44 h=>
aIg true x44 (
pNil x9 fun t88=>
pFld (some 6) t88 fun t89=>
lLd (some false) (some 1) t89 h fun t90 _=>
n46 W R N E P x0 x2 x4 x7 x8 x9 x44 t90 h) (
n46 W R N E P x0 x2 x4 x7 x8 x9 x44 noA h)
def n48:N7:=fun W R N E P x0 x2 x4 x7 x8 x9 x10 h=>
n47 W R N E P x0 x2 x4 x7 x8 x9 x10 h
def n49:N5:=fun W R N E P x0 x2 x4 x7 x8 h=>
pNil x0 fun t92=>
pFld (some 3) t92 fun t93=>
lLd (some false) (some 1) t93 h fun t94 _=>
pFld (some 1) x4 fun t96=>
lLd (some false) (some 1) t96 h fun t97 _=>
lLook Try.prog (some (9,87)) t94 t97 true h fun t99 _=>
pExt t99 0 fun t101=>
pExt t99 1 fun t102=>
n48 W R N E P x0 x2 x4 x7 x8 t101 t102 h
def n50:N3:=fun W R N E P x0 x2 x4 h=>
pFld (some 1) x4 fun t103=>
lLd (some false) (some 1) t103 h fun t104 _=>
aCall Try.prog W 47 [t104] h (fun t106 h107=>
n49 W R N E P x0 x2 x4 t106 (.sc (.int .i64 0)) h107) P
def n51:N0:=fun _ R _ _ _ h=>
R [(.sc (.int .i64 114))] h
def n52:N4:=fun W R N E P x0 x2 x4 x29 h=>
aIf x29 (
n51 W R N E P h) (
n50 W R N E P x0 x2 x4 h)
def n53:N5:=fun W R N E P x0 x2 x4 x21 x28 h=>
pPick x21 x28 (.sc (.bool false)) fun t108=>
n52 W R N E P x0 x2 x4 t108 h
def n54:N4:=fun W R N E P x0 x2 x4 x21 h=>
aIg true x21 (
pFld (some 1) x4 fun t109=>
lLd (some false) (some 1) t109 h fun t110 _=>
pNil x2 fun t112=>
pFld (some 0) t112 fun t113=>
lLd (some false) (some 1) t113 h fun t114 _=>
pBin Try.prog .eql 9 false t110 t114 fun t116=>
n53 W R N E P x0 x2 x4 x21 t116 h) (
n53 W R N E P x0 x2 x4 x21 noA h)
def n55:N3:=fun W R N E P x0 x2 x4 h=>
pBin Try.prog .neq 87 true x2 (.sc (.pointer none)) fun t117=>
n54 W R N E P x0 x2 x4 t117 h
def n56:N3:=fun W R N E P x0 x1 x2 h=>
eBox 6 42 x1 h fun t118 h119=>
n55 W R N E P x0 x2 t118 h119
theorem callsN{x0 x1 x2:AV}{h:AH}{M:WK}{R:RK}(hp:n56 (fun id=>M id\/h.next<=id) (retV Try.prog [.tmp 6] R) (retV Try.prog [.tmp 6] R) (fun _ _ _=>False) (fun v h=>R (.pan v) h) x0 x1 x2 h):ACalls Try.prog 62 [x0,x1,x2] h M R:=
 fin (n:=131) (pl:=[(1,⟨[(none,(fr 0 3)),(some (2,true),(fr 3 7)),(none,(fr 10 1))],false,[],[]⟩),(4,⟨[(none,(fr 0 12))],false,[],[]⟩),(5,⟨[(none,(fr 0 2)),(some (1,true),(fr 2 4)),(none,(fr 6 1))],false,[],[]⟩),(6,⟨[(none,(fr 0 11))],false,[],[]⟩),(15,⟨[(none,(fr 0 7))],false,[],[5]⟩),(20,⟨[(none,(fr 0 8))],false,[],[6]⟩)]) (rs:=[.tmp 6]) (L:=rs) (fun c=>(a3 n56 0 1 2 c)) Try.mixed Try.func62 (fun c=>
(sq (a3 n56 0 1 2 c)
(sn
(sq (a3 n50 0 2 4 c)
(sn
(sn
(sn
(sn
(sq (a3 n19 2 4 8 c)
(sn
(sn
(sl (a0 n1 c))
(sq (a2 n7 2 8 c)
(cd (a3 n6 2 8 117 c) (sn
(sm (a2 n2 2 8 c))
(sq (a2 n5 2 8 c)
(cd (a3 n4 2 8 120 c) (sl (a0 n3 c)) tr))) tr)))
(sq (a4 n18 2 4 8 14 c)
(bk 2 (lp [2,8,14,98,99,100] rs [(2,[2,8])] (a6 n17 2 8 14 98 99 100 c) g1_ (fun i vs h=>if i=2 then n7 c.W c.R c.N c.E c.P (vs.getD 0 noA) (vs.getD 1 noA) h else c.E i vs h) (.b (.t .o)) fun c=>
(sq (a6 n16 2 8 14 98 99 100 c)
(sn
(sn
(sm (a6 n8 2 8 14 98 99 100 c))
(bk 3 (sq (a6 n14 2 8 14 98 99 100 c)
(sn
(sm (a8 n9 2 8 14 15 16 98 99 100 c))
(sq (a8 n13 2 8 14 15 16 98 99 100 c)
(sq (a9 n12 2 8 14 15 16 18 98 99 100 c)
(cd (a9 n11 2 8 14 15 16 98 99 100 111 c) (sl (a0 n10 c)) tr)))))))
(cd (a7 n15 2 8 14 98 99 100 101 c) tr tr))))))))
(sq (a4 n38 0 2 4 8 c)
(bk 0 (lp [0,2,4,8,67,68,69] rs [(0,[2,4,8])] (a7 n37 0 2 4 8 67 68 69 c) g2_ (fun i vs h=>if i=0 then n19 c.W c.R c.N c.E c.P (vs.getD 0 noA) (vs.getD 1 noA) (vs.getD 2 noA) h else c.E i vs h) (.b (.t .o)) fun c=>
(sq (a7 n36 0 2 4 8 67 68 69 c)
(sn
(sn
(sm (a7 n20 0 2 4 8 67 68 69 c))
(bk 1 (sq (a7 n34 0 2 4 8 67 68 69 c)
(sn
(sn
(sn
(cd (a8 n22 0 2 4 8 67 68 69 94 c) (sl (a0 n21 c)) tr)
(gr (gl (a8 n23 0 2 4 8 12 67 68 69 c))))
(sq (a8 n26 0 2 4 8 12 67 68 69 c)
(cd (a9 n25 0 2 4 8 12 67 68 69 86 c) (sl (a0 n24 c)) tr)))
(sq (a8 n33 0 2 4 8 12 67 68 69 c)
(cd (a9 n32 0 2 4 8 12 67 68 69 74 c) (sn
(sm (a7 n27 0 2 4 8 67 68 69 c))
(sn
(sq (a8 n30 0 2 4 8 13 67 68 69 c)
(cd (a9 n29 0 2 4 8 13 67 68 69 82 c) (sl (a1 n28 13 c)) tr))
(gr (gl (a8 n31 0 2 4 8 12 67 68 69 c))))) tr))))))
(cd (a8 n35 0 2 4 8 67 68 69 70 c) tr tr)))))))
(sq (a5 n41 0 2 4 7 8 c)
(cd (a5 n40 0 2 4 8 65 c) (sl (a0 n39 c)) tr)))
(sq (a5 n44 0 2 4 7 8 c)
(cd (a6 n43 0 2 4 7 8 60 c) (sl (a0 n42 c)) tr)))
(sq (a5 n49 0 2 4 7 8 c)
(sn
(cd (a7 n45 0 2 4 7 8 9 49 c) tr tr)
(gr (gn (a7 n48 0 2 4 7 8 9 10 c) (gx (a7 n47 0 2 4 7 8 9 44 c) (gl (a8 n46 0 2 4 7 8 9 44 48 c)))))))))
(sn
(cd (a4 n52 0 2 4 29 c) (sl (a0 n51 c)) tr)
(gr (gn (a3 n55 0 2 4 c) (gx (a4 n54 0 2 4 21 c) (gl (a5 n53 0 2 4 21 28 c))))))))) hp
attribute [simp] n1 n2 n3 n4 n5 n6 n7 n8 n9 n10 n11 n12 n13 n14 n15 n16 n18 n19 n20 n21 n22 n23 n24 n25 n26 n27 n28 n29 n30 n31 n32 n33 n34 n35 n36 n38 n39 n40 n41 n42 n43 n44 n45 n46 n47 n48 n49 n50 n51 n52 n53 n54 n55 n56
end F62
namespace F63
abbrev rs:List Nat:=[4]
def n1:N0:=fun _ R _ _ _ h=>
R [(.sc (.int .i64 0))] h
def n2:N0:=fun _ R _ _ _ h=>
R [(.sc (.int .i64 112))] h
def n3:N1:=fun W R N E P x25 h=>
aIf x25 (
n2 W R N E P h) (
n1 W R N E P h)
def n4:N2:=fun W R N E P x19 x24 h=>
pPick x19 (.sc (.bool true)) x24 fun t1=>
n3 W R N E P t1 h
def n5:N3:=fun W R N E P x3 x5 x19 h=>
aIg false x19 (
pFld (some 1) x3 fun t2=>
lLd (some false) (some 1) t2 h fun t3 _=>
pFld (some 1) x5 fun t5=>
lLd (some false) (some 1) t5 h fun t6 _=>
pBin Try.prog .geq 3 false t3 t6 fun t8=>
n4 W R N E P x19 t8 h) (
n4 W R N E P x19 noA h)
def n6:N2:=fun W R N E P x3 x5 h=>
pFld (some 1) x3 fun t9=>
lLd (some false) (some 1) t9 h fun t10 _=>
pBin Try.prog .lss 3 true t10 (.sc (.int .i64 0)) fun t12=>
n5 W R N E P x3 x5 t12 h
def n7:N0:=fun _ R _ _ _ h=>
R [(.sc (.int .i64 110))] h
def n8:N3:=fun W R N E P x3 x5 x15 h=>
aIf x15 (
n7 W R N E P h) (
n6 W R N E P x3 x5 h)
def n9:N3:=fun W R N E P x3 x5 x6 h=>
pUn .not x6 fun t13=>
n8 W R N E P x3 x5 t13 h
def n10:N2:=fun W R N E P x0 x3 h=>
pFld (some 0) x3 fun t14=>
lLd (some false) (some 1) t14 h fun t15 _=>
lLook Try.prog (some (9,93)) x0 t15 true h fun t17 _=>
pExt t17 0 fun t19=>
pExt t17 1 fun t20=>
eAlloc (some [.int .i64 0,.int .i64 0]) 2 93 h fun t21 h22=>
eStore (some 2) t21 t19 h22 W fun h23=>
n9 W R N E P x3 t21 t20 h23
def n11:N2:=fun W R N E P x0 x1 h=>
eBox 2 44 x1 h fun t24 h25=>
n10 W R N E P x0 t24 h25
theorem callsN{x0 x1:AV}{h:AH}{M:WK}{R:RK}(hp:n11 (fun id=>M id\/h.next<=id) (retV Try.prog [.tmp 4] R) (retV Try.prog [.tmp 4] R) (fun _ _ _=>False) (fun v h=>R (.pan v) h) x0 x1 h):ACalls Try.prog 63 [x0,x1] h M R:=
 fin (n:=26) (pl:=[(4,⟨[(none,(fr 0 4)),(some (3,false),(fr 4 5)),(none,(fr 9 1))],false,[],[]⟩)]) (rs:=[.tmp 4]) (L:=rs) (fun c=>(a2 n11 0 1 c)) Try.mixed Try.func63 (fun c=>
(sq (a2 n11 0 1 c)
(sq (a2 n10 0 3 c)
(sn
(sn
(sl (a0 n1 c))
(sn
(cd (a1 n3 25 c) (sl (a0 n2 c)) tr)
(gr (gn (a2 n6 3 5 c) (gx (a3 n5 3 5 19 c) (gl (a2 n4 19 24 c)))))))
(sq (a3 n9 3 5 6 c)
(cd (a3 n8 3 5 15 c) (sl (a0 n7 c)) tr)))))) hp
attribute [simp] n1 n2 n3 n4 n5 n6 n7 n8 n9 n10 n11
end F63
namespace F84
abbrev rs:List Nat:=[4]
def n1:N1:=fun _ R _ _ _ x4 h=>
R [x4] h
def n2:N2:=fun W R N E P x45 x48 h=>
pPick x45 (.sc (.bool true)) x48 fun t1=>
n1 W R N E P t1 h
def n3:N2:=fun W R N E P x1 x45 h=>
aIg false x45 (
aCall Try.prog W 47 [x1] h (fun t2 h3=>
pBin Try.prog .gtr 3 true t2 (.sc (.int .i64 0)) fun t4=>
n2 W R N E P x45 t4 h3) P) (
n2 W R N E P x45 noA h)
def n4:N3:=fun W R N E P x1 x42 x43 h=>
pPick x42 (.sc (.bool true)) x43 fun t5=>
n3 W R N E P x1 t5 h
def n5:N3:=fun W R N E P x1 x10 x42 h=>
aIg false x42 (
n4 W R N E P x1 x42 x10 h) (
n4 W R N E P x1 x42 noA h)
def n6:N4:=fun W R N E P x1 x10 x39 x40 h=>
pPick x39 (.sc (.bool true)) x40 fun t6=>
n5 W R N E P x1 x10 t6 h
def n7:N4:=fun W R N E P x1 x8 x10 x39 h=>
aIg false x39 (
n6 W R N E P x1 x10 x39 x8 h) (
n6 W R N E P x1 x10 x39 noA h)
def n8:N4:=fun W R N E P x1 x6 x8 x10 h=>
n7 W R N E P x1 x8 x10 x6 h
def n9:N4:=fun W R N E P x0 x1 x6 x8 h=>
pNil x0 fun t7=>
pFld (some 3) t7 fun t8=>
lLd (some false) (some 1) t8 h fun t9 _=>
lLook Try.prog (some (9,87)) t9 x1 true h fun t11 _=>
pExt t11 0 fun t13=>
pExt t11 1 fun t14=>
n8 W R N E P x1 x6 x8 t14 h
def n10:N3:=fun W R N E P x0 x1 x6 h=>
pNil x0 fun t15=>
pFld (some 2) t15 fun t16=>
lLd (some false) (some 1) t16 h fun t17 _=>
lLook Try.prog (some (9,93)) t17 x1 true h fun t19 _=>
pExt t19 0 fun t21=>
pExt t19 1 fun t22=>
eAlloc (some [.int .i64 0,.int .i64 0]) 2 93 h fun t23 h24=>
eStore (some 2) t23 t21 h24 W fun h25=>
n9 W R N E P x0 x1 x6 t22 h25
def n11:N2:=fun W R N E P x0 x1 h=>
pNil x0 fun t26=>
pFld (some 1) t26 fun t27=>
lLd (some false) (some 1) t27 h fun t28 _=>
lLook Try.prog (some (9,93)) t28 x1 true h fun t30 _=>
pExt t30 0 fun t32=>
pExt t30 1 fun t33=>
eAlloc (some [.int .i64 0,.int .i64 0]) 2 93 h fun t34 h35=>
eStore (some 2) t34 t32 h35 W fun h36=>
n10 W R N E P x0 x1 t33 h36
def n12:N2:=fun W R N E P x0 x1 h=>
n11 W R N E P x0 x1 h
theorem callsN{x0 x1:AV}{h:AH}{M:WK}{R:RK}(hp:n12 (fun id=>M id\/h.next<=id) (retV Try.prog [.tmp 4] R) (retV Try.prog [.tmp 4] R) (fun _ _ _=>False) (fun v h=>R (.pan v) h) x0 x1 h):ACalls Try.prog 84 [x0,x1] h M R:=
 fin (n:=50) (pl:=[(4,⟨[(none,(fr 0 2)),(some (1,false),(fr 2 1)),(none,(fr 3 2)),(some (4,false),(fr 5 1)),(none,(fr 6 2)),(some (7,false),(fr 8 3)),(none,(fr 11 2))],false,[],[]⟩)]) (rs:=[.tmp 4]) (L:=rs) (fun c=>(a2 n12 0 1 c)) Try.mixed Try.func84 (fun c=>
(sq (a2 n12 0 1 c)
(sq (a2 n11 0 1 c)
(sq (a3 n10 0 1 6 c)
(sq (a4 n9 0 1 6 8 c)
(sn
(sm (a1 n1 4 c))
(gr (gn (a4 n8 1 6 8 10 c) (gx (a4 n7 1 8 10 39 c) (gn (a4 n6 1 10 39 40 c) (gx (a3 n5 1 10 42 c) (gn (a3 n4 1 42 43 c) (gx (a2 n3 1 45 c) (gl (a2 n2 45 48 c))))))))))))))) hp
attribute [simp] n1 n2 n3 n4 n5 n6 n7 n8 n9 n10 n11 n12
end F84
namespace F39
abbrev rs:List Nat:=[8]
def n1:N0:=fun _ R _ _ _ h=>
R [(.sc (.int .i64 0))] h
def n2:N2:=fun W R _ _ P x0 x5 h=>
lLd (some true) (some 6) x5 h fun t1 _=>
pNil x0 fun t3=>
pFld (some 1) t3 fun t4=>
lLd (some false) (some 1) t4 h fun t5 _=>
pNil x0 fun t7=>
pFld (some 5) t7 fun t8=>
pFld (some 0) t8 fun t9=>
aCall Try.prog W 60 [x0,t1,t5,t9,(.sc (.int .i64 64))] h (fun t10 h11=>
R [t10] h11) P
def n3:N2:=fun W R _ _ P x0 x5 h=>
lLd (some true) (some 6) x5 h fun t12 _=>
pNil x0 fun t14=>
pFld (some 2) t14 fun t15=>
lLd (some false) (some 1) t15 h fun t16 _=>
pNil x0 fun t18=>
pFld (some 5) t18 fun t19=>
pFld (some 1) t19 fun t20=>
aCall Try.prog W 60 [x0,t12,t16,t20,(.sc (.int .i64 64))] h (fun t21 h22=>
R [t21] h22) P
def n4:N3:=fun W R _ _ P x0 x2 x5 h=>
lLd (some true) (some 6) x5 h fun t23 _=>
aCall Try.prog W 61 [x0,t23,x2] h (fun t25 h26=>
R [t25] h26) P
def n5:N0:=fun _ R _ _ _ h=>
R [(.sc (.int .i64 112))] h
def n6:N1:=fun W R N E P x50 h=>
aIf x50 (
n5 W R N E P h) (
n1 W R N E P h)
def n7:N1:=fun W R N E P x5 h=>
pFld (some 3) x5 fun t27=>
lLd (some false) (some 1) t27 h fun t28 _=>
pBin Try.prog .lss 3 true t28 (.sc (.int .i64 0)) fun t30=>
n6 W R N E P t30 h
def n8:N0:=fun _ R _ _ _ h=>
R [(.sc (.int .i64 112))] h
def n9:N1:=fun W R N E P x80 h=>
aIf x80 (
n8 W R N E P h) (
n1 W R N E P h)
def n10:N2:=fun W R N E P x68 x79 h=>
pPick x68 (.sc (.bool true)) x79 fun t31=>
n9 W R N E P t31 h
def n11:N3:=fun W R N E P x68 x72 x78 h=>
aIg false x68 (
pPick x72 x78 (.sc (.bool false)) fun t32=>
n10 W R N E P x68 t32 h) (
n10 W R N E P x68 noA h)
def n12:N4:=fun W R N E P x5 x9 x68 x72 h=>
aIg true x72 (
pFld (some 3) x5 fun t33=>
lLd (some false) (some 1) t33 h fun t34 _=>
pFld (some 1) x9 fun t36=>
lLd (some false) (some 1) t36 h fun t37 _=>
pBin Try.prog .shl 3 true (.sc (.int .i64 1)) t37 fun t39=>
pBin Try.prog .geq 3 false t34 t39 fun t40=>
n11 W R N E P x68 x72 t40 h) (
n11 W R N E P x68 x72 noA h)
def n13:N3:=fun W R N E P x5 x9 x68 h=>
aIg false x68 (
pFld (some 1) x9 fun t41=>
lLd (some false) (some 1) t41 h fun t42 _=>
pBin Try.prog .lss 3 true t42 (.sc (.int .i64 63)) fun t44=>
n12 W R N E P x5 x9 x68 t44 h) (
n12 W R N E P x5 x9 x68 noA h)
def n14:N2:=fun W R N E P x5 x9 h=>
pFld (some 3) x5 fun t45=>
lLd (some false) (some 1) t45 h fun t46 _=>
pBin Try.prog .lss 3 true t46 (.sc (.int .i64 0)) fun t48=>
n13 W R N E P x5 x9 t48 h
def n15:N0:=fun _ R _ _ _ h=>
R [(.sc (.int .i64 110))] h
def n16:N3:=fun W R N E P x5 x9 x64 h=>
aIf x64 (
n15 W R N E P h) (
n14 W R N E P x5 x9 h)
def n17:N3:=fun W R N E P x5 x9 x10 h=>
pUn .not x10 fun t49=>
n16 W R N E P x5 x9 t49 h
def n18:N2:=fun W R N E P x0 x5 h=>
pNil x0 fun t50=>
pFld (some 2) t50 fun t51=>
lLd (some false) (some 1) t51 h fun t52 _=>
pFld (some 1) x5 fun t54=>
lLd (some false) (some 1) t54 h fun t55 _=>
lLook Try.prog (some (9,93)) t52 t55 true h fun t57 _=>
pExt t57 0 fun t59=>
pExt t57 1 fun t60=>
eAlloc (some [.int .i64 0,.int .i64 0]) 2 93 h fun t61 h62=>
eStore (some 2) t61 t59 h62 W fun h63=>
n17 W R N E P x5 t61 t60 h63
def n19:N3:=fun W R _ _ P x0 x3 x5 h=>
lLd (some true) (some 6) x5 h fun t64 _=>
aCall Try.prog W 62 [x0,t64,x3] h (fun t66 h67=>
R [t66] h67) P
def n20:N2:=fun W R _ _ P x0 x5 h=>
pNil x0 fun t68=>
pFld (some 2) t68 fun t69=>
lLd (some false) (some 1) t69 h fun t70 _=>
pFld (some 2) x5 fun t72=>
lLd (some false) (some 1) t72 h fun t73 _=>
pIxA (some (2,none)) t73 (.sc (.int .i64 1)) fun t75=>
lLd (some true) (some 2) t75 h fun t76 _=>
aCall Try.prog W 63 [t70,t76] h (fun t78 h79=>
R [t78] h79) P
def n21:N1:=fun _ R _ _ _ x11 h=>
R [x11] h
def n22:N4:=fun W R N E P x0 x5 x11 x103 h=>
aIf x103 (
n21 W R N E P x11 h) (
n20 W R N E P x0 x5 h)
def n23:N3:=fun W R N E P x0 x5 x11 h=>
pBin Try.prog .neq 30 true x11 (.sc (.int .i64 0)) fun t80=>
n22 W R N E P x0 x5 x11 t80 h
def n24:N2:=fun W R N E P x0 x5 h=>
pNil x0 fun t81=>
pFld (some 1) t81 fun t82=>
lLd (some false) (some 1) t82 h fun t83 _=>
pFld (some 2) x5 fun t85=>
lLd (some false) (some 1) t85 h fun t86 _=>
pIxA (some (2,none)) t86 (.sc (.int .i64 0)) fun t88=>
lLd (some true) (some 2) t88 h fun t89 _=>
aCall Try.prog W 63 [t83,t89] h (fun t91 h92=>
n23 W R N E P x0 x5 t91 h92) P
def n25:N0:=fun _ R _ _ _ h=>
R [(.sc (.int .i64 111))] h
def n26:N3:=fun W R N E P x0 x5 x92 h=>
aIf x92 (
n25 W R N E P h) (
n24 W R N E P x0 x5 h)
def n27:N2:=fun W R N E P x0 x5 h=>
pFld (some 2) x5 fun t93=>
lLd (some false) (some 1) t93 h fun t94 _=>
(strArg t94=false)/\pLen t94 fun t96=>
pBin Try.prog .neq 3 true t96 (.sc (.int .i64 2)) fun t97=>
n26 W R N E P x0 x5 t97 h
def n28:N2:=fun W R _ _ P x0 x5 h=>
pNil x0 fun t98=>
pFld (some 1) t98 fun t99=>
lLd (some false) (some 1) t99 h fun t100 _=>
pFld (some 2) x5 fun t102=>
lLd (some false) (some 1) t102 h fun t103 _=>
pIxA (some (2,none)) t103 (.sc (.int .i64 0)) fun t105=>
lLd (some true) (some 2) t105 h fun t106 _=>
aCall Try.prog W 63 [t100,t106] h (fun t108 h109=>
R [t108] h109) P
def n29:N0:=fun _ R _ _ _ h=>
R [(.sc (.int .i64 111))] h
def n30:N3:=fun W R N E P x0 x5 x119 h=>
aIf x119 (
n29 W R N E P h) (
n28 W R N E P x0 x5 h)
def n31:N2:=fun W R N E P x0 x5 h=>
pFld (some 2) x5 fun t110=>
lLd (some false) (some 1) t110 h fun t111 _=>
(strArg t111=false)/\pLen t111 fun t113=>
pBin Try.prog .neq 3 true t113 (.sc (.int .i64 1)) fun t114=>
n30 W R N E P x0 x5 t114 h
def n32:N3:=fun W R N E P x0 x5 x114 h=>
aIf x114 (
n31 W R N E P x0 x5 h) (
n1 W R N E P h)
def n33:N3:=fun W R N E P x0 x5 x13 h=>
pBin Try.prog .eql 9 true x13 (.sc (.string ⟨#[114,101,115,101,116]⟩)) fun t115=>
n32 W R N E P x0 x5 t115 h
def n34:N4:=fun W R N E P x0 x5 x13 x87 h=>
aIf x87 (
n27 W R N E P x0 x5 h) (
n33 W R N E P x0 x5 x13 h)
def n35:N3:=fun W R N E P x0 x5 x13 h=>
pBin Try.prog .eql 9 true x13 (.sc (.string ⟨#[109,101,97,115,117,114,101]⟩)) fun t116=>
n34 W R N E P x0 x5 x13 t116 h
def n36:N5:=fun W R N E P x0 x3 x5 x13 x81 h=>
aIf x81 (
n19 W R N E P x0 x3 x5 h) (
n35 W R N E P x0 x5 x13 h)
def n37:N4:=fun W R N E P x0 x3 x5 x13 h=>
pBin Try.prog .eql 9 true x13 (.sc (.string ⟨#[117,115,101]⟩)) fun t117=>
n36 W R N E P x0 x3 x5 x13 t117 h
def n38:N5:=fun W R N E P x0 x3 x5 x13 x51 h=>
aIf x51 (
n18 W R N E P x0 x5 h) (
n37 W R N E P x0 x3 x5 x13 h)
def n39:N4:=fun W R N E P x0 x3 x5 x13 h=>
pBin Try.prog .eql 9 true x13 (.sc (.string ⟨#[105,102]⟩)) fun t118=>
n38 W R N E P x0 x3 x5 x13 t118 h
def n40:N5:=fun W R N E P x0 x3 x5 x13 x46 h=>
aIf x46 (
n7 W R N E P x5 h) (
n39 W R N E P x0 x3 x5 x13 h)
def n41:N4:=fun W R N E P x0 x3 x5 x13 h=>
pBin Try.prog .eql 9 true x13 (.sc (.string ⟨#[114,101,112,101,97,116]⟩)) fun t119=>
n40 W R N E P x0 x3 x5 x13 t119 h
def n42:N6:=fun W R N E P x0 x2 x3 x5 x13 x40 h=>
aIf x40 (
n4 W R N E P x0 x2 x5 h) (
n41 W R N E P x0 x3 x5 x13 h)
def n43:N5:=fun W R N E P x0 x2 x3 x5 x13 h=>
pBin Try.prog .eql 9 true x13 (.sc (.string ⟨#[103,97,116,101]⟩)) fun t120=>
n42 W R N E P x0 x2 x3 x5 x13 t120 h
def n44:N6:=fun W R N E P x0 x2 x3 x5 x13 x27 h=>
aIf x27 (
n3 W R N E P x0 x5 h) (
n43 W R N E P x0 x2 x3 x5 x13 h)
def n45:N5:=fun W R N E P x0 x2 x3 x5 x13 h=>
pBin Try.prog .eql 9 true x13 (.sc (.string ⟨#[98,105,116,115]⟩)) fun t121=>
n44 W R N E P x0 x2 x3 x5 x13 t121 h
def n46:N6:=fun W R N E P x0 x2 x3 x5 x13 x14 h=>
aIf x14 (
n2 W R N E P x0 x5 h) (
n45 W R N E P x0 x2 x3 x5 x13 h)
def n47:N5:=fun W R N E P x0 x2 x3 x5 x13 h=>
pBin Try.prog .eql 9 true x13 (.sc (.string ⟨#[113,117,98,105,116,115]⟩)) fun t122=>
n46 W R N E P x0 x2 x3 x5 x13 t122 h
def n48:N4:=fun W R N E P x0 x2 x3 x5 h=>
pFld (some 0) x5 fun t123=>
lLd (some false) (some 1) t123 h fun t124 _=>
n47 W R N E P x0 x2 x3 x5 t124 h
def n49:N4:=fun W R N E P x0 x1 x2 x3 h=>
eBox 6 42 x1 h fun t126 h127=>
n48 W R N E P x0 x2 x3 t126 h127
theorem callsN{x0 x1 x2 x3:AV}{h:AH}{M:WK}{R:RK}(hp:n49 (fun id=>M id\/h.next<=id) (retV Try.prog [.tmp 8] R) (retV Try.prog [.tmp 8] R) (fun _ _ _=>False) (fun v h=>R (.pan v) h) x0 x1 x2 x3 h):ACalls Try.prog 39 [x0,x1,x2,x3] h M R:=
 fin (n:=129) (pl:=[(3,⟨[(none,(fr 0 12))],false,[],[]⟩),(5,⟨[(none,(fr 0 12))],false,[],[]⟩),(12,⟨[(none,(fr 0 13))],false,[],[]⟩),(15,⟨[(none,(fr 0 4)),(some (3,false),(fr 4 4)),(some (7,true),(fr 8 6)),(some (3,false),(fr 14 1)),(none,(fr 15 1))],false,[],[]⟩),(22,⟨[(none,(fr 0 10))],false,[],[]⟩),(25,⟨[(none,(fr 0 10))],false,[],[]⟩),(29,⟨[(none,(fr 0 10))],false,[],[]⟩)]) (rs:=[.tmp 8]) (L:=rs) (fun c=>(a4 n49 0 1 2 3 c)) Try.mixed Try.func39 (fun c=>
(sq (a4 n49 0 1 2 3 c)
(sn
(sl (a0 n1 c))
(sq (a4 n48 0 2 3 5 c)
(bk 0 (sq (a5 n47 0 2 3 5 13 c)
(cd (a6 n46 0 2 3 5 13 14 c) (sl (a2 n2 0 5 c)) (sq (a5 n45 0 2 3 5 13 c)
(cd (a6 n44 0 2 3 5 13 27 c) (sl (a2 n3 0 5 c)) (sq (a5 n43 0 2 3 5 13 c)
(cd (a6 n42 0 2 3 5 13 40 c) (sl (a3 n4 0 2 5 c)) (sq (a4 n41 0 3 5 13 c)
(cd (a5 n40 0 3 5 13 46 c) (sq (a1 n7 5 c)
(cd (a1 n6 50 c) (sl (a0 n5 c)) tr)) (sq (a4 n39 0 3 5 13 c)
(cd (a5 n38 0 3 5 13 51 c) (sq (a2 n18 0 5 c)
(sn
(sn
(cd (a1 n9 80 c) (sl (a0 n8 c)) tr)
(gr (gn (a2 n14 5 9 c) (gx (a3 n13 5 9 68 c) (gx (a4 n12 5 9 68 72 c) (gx (a3 n11 68 72 78 c) (gl (a2 n10 68 79 c))))))))
(sq (a3 n17 5 9 10 c)
(cd (a3 n16 5 9 64 c) (sl (a0 n15 c)) tr)))) (sq (a4 n37 0 3 5 13 c)
(cd (a5 n36 0 3 5 13 81 c) (sl (a3 n19 0 3 5 c)) (sq (a3 n35 0 5 13 c)
(cd (a4 n34 0 5 13 87 c) (sn
(sn
(sl (a2 n20 0 5 c))
(sq (a2 n24 0 5 c)
(sq (a3 n23 0 5 11 c)
(cd (a4 n22 0 5 11 103 c) (sl (a1 n21 11 c)) tr))))
(sq (a2 n27 0 5 c)
(cd (a3 n26 0 5 92 c) (sl (a0 n25 c)) tr))) (sq (a3 n33 0 5 13 c)
(cd (a3 n32 0 5 114 c) (sn
(sl (a2 n28 0 5 c))
(sq (a2 n31 0 5 c)
(cd (a3 n30 0 5 119 c) (sl (a0 n29 c)) tr))) tr))))))))))))))))))))) hp
attribute [simp] n1 n2 n3 n4 n5 n6 n7 n8 n9 n10 n11 n12 n13 n14 n15 n16 n17 n18 n19 n20 n21 n22 n23 n24 n25 n26 n27 n28 n29 n30 n31 n32 n33 n34 n35 n36 n37 n38 n39 n40 n41 n42 n43 n44 n45 n46 n47 n48 n49
end F39
end
section
open Go.Ab
namespace F21
abbrev rs:List Nat:=[10]
def n1:N0:=fun _ R _ _ _ h=>
R [(.sc (.int .i64 0))] h
def n2:N6:=fun _ _ N _ _ x0 x2 x3 x4 x11 x12 h=>
pFld (some 4) x12 fun t1=>
lLd (some false) (some 1) t1 h fun t2 _=>
pBin Try.prog .add 3 true (.sc (.int .i64 1)) t2 fun t4=>
pBin Try.prog .add 3 false x11 t4 fun t5=>
N [x0,x2,x3,x4,t5] h
def n3:N7:=fun W R N E P x0 x2 x3 x4 x11 x12 x17 h=>
pNil x17 fun t6=>
pFld (some 2) t6 fun t7=>
lLd (some false) (some 1) t7 h fun t8 _=>
pNil x17 fun t10=>
pFld (some 3) t10 fun t11=>
lLd (some false) (some 1) t11 h fun t12 _=>
aCall Try.prog noW 40 [x0,t8,t12] h (fun t14 h15=>
pNil x17 fun t16=>
pFld (some 5) t16 fun t17=>
eStore (some 1) t17 t14 h15 W fun h18=>
n2 W R N E P x0 x2 x3 x4 x11 x12 h18) P
def n4:N7:=fun W R N E P x0 x2 x3 x4 x11 x12 x17 h=>
pNil x17 fun t19=>
pFld (some 6) t19 fun t20=>
eStore (some 1) t20 (.sc (.bool true)) h W fun h21=>
n3 W R N E P x0 x2 x3 x4 x11 x12 x17 h21
def n5:N6:=fun W R N E P x0 x2 x3 x4 x11 x12 h=>
pNil x0 fun t22=>
pFld (some 3) t22 fun t23=>
lLd (some false) (some 1) t23 h fun t24 _=>
pFld (some 1) x12 fun t26=>
lLd (some false) (some 1) t26 h fun t27 _=>
lLook Try.prog (some (9,87)) t24 t27 false h fun t29 _=>
n4 W R N E P x0 x2 x3 x4 x11 x12 t29 h
def n6:N7:=fun W R N E P x0 x2 x3 x4 x11 x12 x82 h=>
aIf x82 (
n5 W R N E P x0 x2 x3 x4 x11 x12 h) (
n2 W R N E P x0 x2 x3 x4 x11 x12 h)
def n7:N6:=fun W R N E P x0 x2 x3 x4 x11 x12 h=>
pFld (some 0) x12 fun t31=>
lLd (some false) (some 1) t31 h fun t32 _=>
pBin Try.prog .eql 9 true t32 (.sc (.string ⟨#[103,97,116,101]⟩)) fun t34=>
n6 W R N E P x0 x2 x3 x4 x11 x12 t34 h
def n8:N1:=fun _ R _ _ _ x16 h=>
R [x16] h
def n9:N8:=fun W R N E P x0 x2 x3 x4 x11 x12 x16 x78 h=>
aIf x78 (
n8 W R N E P x16 h) (
n7 W R N E P x0 x2 x3 x4 x11 x12 h)
def n10:N7:=fun W R N E P x0 x2 x3 x4 x11 x12 x16 h=>
pBin Try.prog .neq 30 true x16 (.sc (.int .i64 0)) fun t35=>
n9 W R N E P x0 x2 x3 x4 x11 x12 x16 t35 h
def n11:N7:=fun W R N E P x0 x2 x3 x4 x11 x12 x15 h=>
pBin Try.prog .add 3 true x11 (.sc (.int .i64 1)) fun t36=>
pBin Try.prog .add 3 true x11 (.sc (.int .i64 1)) fun t37=>
pFld (some 4) x12 fun t38=>
lLd (some false) (some 1) t38 h fun t39 _=>
pBin Try.prog .add 3 false t37 t39 fun t41=>
pBin Try.prog .add 3 true x3 (.sc (.int .i64 1)) fun t42=>
aCall Try.prog W 21 [x0,t36,t41,t42,x15] h (fun t43 h44=>
n10 W R N E P x0 x2 x3 x4 x11 x12 t43 h44) P
def n12:N8:=fun W R N E P x0 x2 x3 x4 x11 x12 x15 x57 h=>
aIf x57 (
pNil x0 fun t45=>
pFld (some 3) t45 fun t46=>
lLd (some false) (some 1) t46 h fun t47 _=>
pFld (some 1) x12 fun t49=>
lLd (some false) (some 1) t49 h fun t50 _=>
lLook Try.prog (some (9,87)) t47 t50 false h fun t52 _=>
n11 W R N E P x0 x2 x3 x4 x11 x12 t52 h) (
n11 W R N E P x0 x2 x3 x4 x11 x12 x15 h)
def n13:N7:=fun W R N E P x0 x2 x3 x4 x11 x12 x15 h=>
pFld (some 0) x12 fun t54=>
lLd (some false) (some 1) t54 h fun t55 _=>
pBin Try.prog .eql 9 true t55 (.sc (.string ⟨#[103,97,116,101]⟩)) fun t57=>
n12 W R N E P x0 x2 x3 x4 x11 x12 x15 t57 h
def n14:N6:=fun W R N E P x0 x2 x3 x4 x11 x12 h=>
n13 W R N E P x0 x2 x3 x4 x11 x12 x4 h
def n15:N1:=fun _ R _ _ _ x14 h=>
R [x14] h
def n16:N8:=fun W R N E P x0 x2 x3 x4 x11 x12 x14 x52 h=>
aIf x52 (
n15 W R N E P x14 h) (
n14 W R N E P x0 x2 x3 x4 x11 x12 h)
def n17:N7:=fun W R N E P x0 x2 x3 x4 x11 x12 x14 h=>
pBin Try.prog .neq 30 true x14 (.sc (.int .i64 0)) fun t58=>
n16 W R N E P x0 x2 x3 x4 x11 x12 x14 t58 h
def n18:N6:=fun W R N E P x0 x2 x3 x4 x11 x12 h=>
lLd (some true) (some 6) x12 h fun t59 _=>
aCall Try.prog W 39 [x0,t59,x11,x4] h (fun t61 h62=>
n17 W R N E P x0 x2 x3 x4 x11 x12 t61 h62) P
def n19:N1:=fun _ R _ _ _ x13 h=>
R [x13] h
def n20:N8:=fun W R N E P x0 x2 x3 x4 x11 x12 x13 x44 h=>
aIf x44 (
n19 W R N E P x13 h) (
n18 W R N E P x0 x2 x3 x4 x11 x12 h)
def n21:N7:=fun W R N E P x0 x2 x3 x4 x11 x12 x13 h=>
pBin Try.prog .neq 30 true x13 (.sc (.int .i64 0)) fun t63=>
n20 W R N E P x0 x2 x3 x4 x11 x12 x13 t63 h
def n22:N6:=fun W R N E P x0 x2 x3 x4 x11 x12 h=>
lLd (some true) (some 6) x12 h fun t64 _=>
pBin Try.prog .sub 3 false x2 x11 fun t66=>
pBin Try.prog .sub 3 true t66 (.sc (.int .i64 1)) fun t67=>
aCall Try.prog W 38 [x0,t64,t67,x3,x4] h (fun t68 h69=>
n21 W R N E P x0 x2 x3 x4 x11 x12 t68 h69) P
def n23:N6:=fun W R N E P x0 x2 x3 x4 x11 x12 h=>
pFld (some 5) x12 fun t70=>
lLd (some false) (some 1) t70 h fun t71 _=>
pNil x0 fun t73=>
pFld (some 8) t73 fun t74=>
eStore (some 1) t74 t71 h W fun h75=>
n22 W R N E P x0 x2 x3 x4 x11 x12 h75
def n24:N5:=fun W R N E P x0 x2 x3 x4 x11 h=>
pNil x0 fun t76=>
pFld (some 0) t76 fun t77=>
lLd (some false) (some 1) t77 h fun t78 _=>
pIxA (some (6,none)) t78 x11 fun t80=>
lLd (some true) (some 6) t80 h fun t81 _=>
eAlloc (some [.string ⟨#[]⟩,.string ⟨#[]⟩,.slice none 0 0,.int .i64 0,.int .i64 0,.int .i64 0]) 6 42 h fun t83 h84=>
eStore (some 6) t83 t81 h84 W fun h85=>
n23 W R N E P x0 x2 x3 x4 x11 t83 h85
def n25:N6:=fun W R N E P x0 x2 x3 x4 x11 x21 h=>
aIf x21 (
n24 W R N E P x0 x2 x3 x4 x11 h) (
E 0 [] h)
def n26:N5:=fun W R N E P x0 x2 x3 x4 x11 h=>
pBin Try.prog .lss 3 false x11 x2 fun t86=>
n25 W R N E P x0 x2 x3 x4 x11 t86 h
def g1_:GK:=fun W R N E P N' vs h=>n26 W R N' (fun(i:Nat) (vs:List AV) (h:AH)=>if i=0 then n1 W R N E P h else E i vs h) P (vs.getD 0 noA) (vs.getD 1 noA) (vs.getD 2 noA) (vs.getD 3 noA) (vs.getD 4 noA) h
def n27:N5:=fun W R N E P x0 x2 x3 x4 x11 h=>
vLoop (g1_ W R N E P) [x0,x2,x3,x4,x11] h
def n28:N5:=fun W R N E P x0 x1 x2 x3 x4 h=>
n27 W R N E P x0 x2 x3 x4 x1 h
def n29:N5:=fun W R N E P x0 x1 x2 x3 x4 h=>
n28 W R N E P x0 x1 x2 x3 x4 h
theorem callsN{x0 x1 x2 x3 x4:AV}{h:AH}{M:WK}{R:RK}(hp:n29 (fun id=>M id\/h.next<=id) (retV Try.prog [.tmp 10] R) (retV Try.prog [.tmp 10] R) (fun _ _ _=>False) (fun v h=>R (.pan v) h) x0 x1 x2 x3 x4 h):ACalls Try.prog 21 [x0,x1,x2,x3,x4] h M R:=
 fin (n:=111) (pl:=[(13,⟨[(none,(fr 0 8))],false,[],[]⟩),(18,⟨[(none,(fr 0 8))],false,[],[]⟩),(20,⟨[(none,(fr 0 14))],false,[],[10]⟩)]) (rs:=[.tmp 10]) (L:=rs) (fun c=>(a5 n29 0 1 2 3 4 c)) Try.mixed Try.func21 (fun c=>
(sq (a5 n29 0 1 2 3 4 c)
(sn
(sl (a0 n1 c))
(sq (a5 n28 0 1 2 3 4 c)
(bk 0 (lp [0,2,3,4,11] rs [(0,[])] (a5 n27 0 2 3 4 11 c) g1_ (fun i vs h=>if i=0 then n1 c.W c.R c.N c.E c.P h else c.E i vs h) (.b (.t .o)) fun c=>
(sn
(bk 1 (sq (a5 n24 0 2 3 4 11 c)
(sq (a6 n23 0 2 3 4 11 12 c)
(sn
(sn
(sq (a6 n14 0 2 3 4 11 12 c)
(sn
(sn
(sn
(sm (a6 n2 0 2 3 4 11 12 c))
(sq (a6 n7 0 2 3 4 11 12 c)
(cd (a7 n6 0 2 3 4 11 12 82 c) (sq (a6 n5 0 2 3 4 11 12 c)
(sq (a7 n4 0 2 3 4 11 12 17 c)
(gr (gl (a7 n3 0 2 3 4 11 12 17 c))))) tr)))
(sq (a7 n11 0 2 3 4 11 12 15 c)
(sq (a7 n10 0 2 3 4 11 12 16 c)
(cd (a8 n9 0 2 3 4 11 12 16 78 c) (sl (a1 n8 16 c)) tr))))
(sq (a7 n13 0 2 3 4 11 12 15 c)
(cd (a8 n12 0 2 3 4 11 12 15 57 c) tr tr))))
(sq (a6 n18 0 2 3 4 11 12 c)
(sq (a7 n17 0 2 3 4 11 12 14 c)
(cd (a8 n16 0 2 3 4 11 12 14 52 c) (sl (a1 n15 14 c)) tr))))
(sq (a6 n22 0 2 3 4 11 12 c)
(sq (a7 n21 0 2 3 4 11 12 13 c)
(cd (a8 n20 0 2 3 4 11 12 13 44 c) (sl (a1 n19 13 c)) tr)))))))
(sq (a5 n26 0 2 3 4 11 c)
(cd (a6 n25 0 2 3 4 11 21 c) tr tr))))))))) hp
attribute [simp] n1 n2 n3 n4 n5 n6 n7 n8 n9 n10 n11 n12 n13 n14 n15 n16 n17 n18 n19 n20 n21 n22 n23 n24 n25 n26 n28 n29
end F21
namespace F40
abbrev rs:List Nat:=[6]
def n1:N1:=fun _ R _ _ _ x7 h=>
R [x7] h
def n2:N4:=fun _ _ N _ _ x0 x2 x7 x8 h=>
pNil x0 fun t1=>
pFld (some 0) t1 fun t2=>
lLd (some false) (some 1) t2 h fun t3 _=>
pIxA (some (6,none)) t3 x8 fun t5=>
pFld (some 4) t5 fun t6=>
lLd (some false) (some 1) t6 h fun t7 _=>
pBin Try.prog .add 3 true (.sc (.int .i64 1)) t7 fun t9=>
pBin Try.prog .add 3 false x8 t9 fun t10=>
N [x0,x2,x7,t10] h
def n3:N5:=fun W R N E P x0 x2 x7 x8 x10 h=>
pBin Try.prog .add 3 false x7 x10 fun t11=>
pMM true t11 (.sc (.int .i64 4097)) fun t12=>
n2 W R N E P x0 x2 t12 x8 h
def n4:N7:=fun W R N E P x0 x2 x7 x8 x9 x10 x48 h=>
aIf x48 (
pFld (some 3) x9 fun t13=>
lLd (some false) (some 1) t13 h fun t14 _=>
pMM true t14 (.sc (.int .i64 4097)) fun t16=>
pBin Try.prog .mul 3 false t16 x10 fun t17=>
n3 W R N E P x0 x2 x7 x8 t17 h) (
n3 W R N E P x0 x2 x7 x8 x10 h)
def n5:N6:=fun W R N E P x0 x2 x7 x8 x9 x10 h=>
pBin Try.prog .gtr 3 true x10 (.sc (.int .i64 0)) fun t18=>
n4 W R N E P x0 x2 x7 x8 x9 x10 t18 h
def n6:N5:=fun W R N E P x0 x2 x7 x8 x9 h=>
pBin Try.prog .add 3 true x8 (.sc (.int .i64 1)) fun t19=>
pBin Try.prog .add 3 true x8 (.sc (.int .i64 1)) fun t20=>
pFld (some 4) x9 fun t21=>
lLd (some false) (some 1) t21 h fun t22 _=>
pBin Try.prog .add 3 false t20 t22 fun t24=>
aCall Try.prog W 40 [x0,t19,t24] h (fun t25 h26=>
n5 W R N E P x0 x2 x7 x8 x9 t25 h26) P
def n7:N7:=fun W R N E P x0 x2 x7 x8 x10 x11 x64 h=>
aIf x64 (
pNil x11 fun t27=>
pFld (some 5) t27 fun t28=>
lLd (some false) (some 1) t28 h fun t29 _=>
n3 W R N E P x0 x2 x7 x8 t29 h) (
n3 W R N E P x0 x2 x7 x8 x10 h)
def n8:N7:=fun W R N E P x0 x2 x7 x8 x10 x11 x12 h=>
n7 W R N E P x0 x2 x7 x8 x10 x11 x12 h
def n9:N6:=fun W R N E P x0 x2 x7 x8 x9 x10 h=>
pNil x0 fun t31=>
pFld (some 3) t31 fun t32=>
lLd (some false) (some 1) t32 h fun t33 _=>
pFld (some 1) x9 fun t35=>
lLd (some false) (some 1) t35 h fun t36 _=>
lLook Try.prog (some (9,87)) t33 t36 true h fun t38 _=>
pExt t38 0 fun t40=>
pExt t38 1 fun t41=>
n8 W R N E P x0 x2 x7 x8 x10 t40 t41 h
def n10:N7:=fun W R N E P x0 x2 x7 x8 x9 x10 x37 h=>
aIf x37 (
n6 W R N E P x0 x2 x7 x8 x9 h) (
n9 W R N E P x0 x2 x7 x8 x9 x10 h)
def n11:N6:=fun W R N E P x0 x2 x7 x8 x9 x10 h=>
pFld (some 0) x9 fun t42=>
lLd (some false) (some 1) t42 h fun t43 _=>
pBin Try.prog .eql 9 true t43 (.sc (.string ⟨#[114,101,112,101,97,116]⟩)) fun t45=>
n10 W R N E P x0 x2 x7 x8 x9 x10 t45 h
def n12:N5:=fun W R N E P x0 x2 x7 x8 x9 h=>
n11 W R N E P x0 x2 x7 x8 x9 (.sc (.int .i64 1)) h
def n13:N4:=fun W R N E P x0 x2 x7 x8 h=>
pNil x0 fun t46=>
pFld (some 0) t46 fun t47=>
lLd (some false) (some 1) t47 h fun t48 _=>
pIxA (some (6,none)) t48 x8 fun t50=>
lLd (some true) (some 6) t50 h fun t51 _=>
eAlloc (some [.string ⟨#[]⟩,.string ⟨#[]⟩,.slice none 0 0,.int .i64 0,.int .i64 0,.int .i64 0]) 6 42 h fun t53 h54=>
eStore (some 6) t53 t51 h54 W fun h55=>
n12 W R N E P x0 x2 x7 x8 t53 h55
def n14:N5:=fun W R N E P x0 x2 x7 x8 x16 h=>
aIf x16 (
n13 W R N E P x0 x2 x7 x8 h) (
E 0 [x7] h)
def n15:N4:=fun W R N E P x0 x2 x7 x8 h=>
pBin Try.prog .lss 3 false x8 x2 fun t56=>
n14 W R N E P x0 x2 x7 x8 t56 h
def g1_:GK:=fun W R N E P N' vs h=>n15 W R N' (fun(i:Nat) (vs:List AV) (h:AH)=>if i=0 then n1 W R N E P (vs.getD 0 noA) h else E i vs h) P (vs.getD 0 noA) (vs.getD 1 noA) (vs.getD 2 noA) (vs.getD 3 noA) h
def n16:N4:=fun W R N E P x0 x2 x7 x8 h=>
vLoop (g1_ W R N E P) [x0,x2,x7,x8] h
def n17:N4:=fun W R N E P x0 x1 x2 x7 h=>
n16 W R N E P x0 x2 x7 x1 h
def n18:N3:=fun W R N E P x0 x1 x2 h=>
n17 W R N E P x0 x1 x2 (.sc (.int .i64 0)) h
def n19:N3:=fun W R N E P x0 x1 x2 h=>
n18 W R N E P x0 x1 x2 h
theorem callsN{x0 x1 x2:AV}{h:AH}{M:WK}{R:RK}(hp:n19 (fun id=>M id\/h.next<=id) (retV Try.prog [.tmp 6] R) (retV Try.prog [.tmp 6] R) (fun _ _ _=>False) (fun v h=>R (.pan v) h) x0 x1 x2 h):ACalls Try.prog 40 [x0,x1,x2] h M R:=
 fin (n:=74) (pl:=[(11,⟨[(none,(fr 0 12))],false,[],[]⟩)]) (rs:=[.tmp 6]) (L:=rs) (fun c=>(a3 n19 0 1 2 c)) Try.mixed Try.func40 (fun c=>
(sq (a3 n19 0 1 2 c)
(sq (a3 n18 0 1 2 c)
(sn
(sl (a1 n1 7 c))
(sq (a4 n17 0 1 2 7 c)
(bk 0 (lp [0,2,7,8] rs [(0,[7])] (a4 n16 0 2 7 8 c) g1_ (fun i vs h=>if i=0 then n1 c.W c.R c.N c.E c.P (vs.getD 0 noA) h else c.E i vs h) (.b (.t .o)) fun c=>
(sn
(sn
(sm (a4 n2 0 2 7 8 c))
(bk 1 (sq (a4 n13 0 2 7 8 c)
(sq (a5 n12 0 2 7 8 9 c)
(sn
(sm (a5 n3 0 2 7 8 10 c))
(sq (a6 n11 0 2 7 8 9 10 c)
(cd (a7 n10 0 2 7 8 9 10 37 c) (sq (a5 n6 0 2 7 8 9 c)
(sq (a6 n5 0 2 7 8 9 10 c)
(cd (a7 n4 0 2 7 8 9 10 48 c) tr tr))) (sq (a6 n9 0 2 7 8 9 10 c)
(sq (a7 n8 0 2 7 8 10 11 12 c)
(cd (a7 n7 0 2 7 8 10 11 64 c) tr tr))))))))))
(sq (a4 n15 0 2 7 8 c)
(cd (a5 n14 0 2 7 8 16 c) tr tr)))))))))) hp
attribute [simp] n1 n2 n3 n4 n5 n6 n7 n8 n9 n10 n11 n12 n13 n14 n15 n17 n18 n19
end F40
namespace F41
abbrev rs:List Nat:=[10]
def n1:N5:=fun W R _ _ P x0 x4 x8 x11 x13 h=>
pNil x11 fun t1=>
pFld (some 2) t1 fun t2=>
lLd (some false) (some 1) t2 h fun t3 _=>
pNil x11 fun t5=>
pFld (some 3) t5 fun t6=>
lLd (some false) (some 1) t6 h fun t7 _=>
lLd (some true) (some 3) x8 h fun t9 _=>
aCall Try.prog W 64 [x0,t3,t7,x13,t9,x4] h (fun t11 h12=>
R [t11] h12) P
def n2:N9:=fun _ _ N _ _ x0 x2 x4 x8 x11 x13 x43 x44 x45 h=>
pBin Try.prog .add 3 true x45 (.sc (.int .i64 1)) fun t13=>
N [x0,x2,x4,x8,x11,x13,x43,x44,t13] h
def n3:N11:=fun W R N E P x0 x2 x4 x8 x11 x13 x14 x15 x43 x44 x45 h=>
pIxA (some (1,none)) x2 x14 fun t14=>
lLd (some false) (some 1) t14 h fun t15 _=>
eMSet Try.prog (some (9,3)) x13 x15 t15 h W fun h17=>
n2 W R N E P x0 x2 x4 x8 x11 x13 x43 x44 x45 h17
def n4:N9:=fun W R N E P x0 x2 x4 x8 x11 x13 x43 x44 x45 h=>
pIxA (some (1,none)) x43 x45 fun t18=>
lLd (some false) (some 1) t18 h fun t19 _=>
n3 W R N E P x0 x2 x4 x8 x11 x13 x45 t19 x43 x44 x45 h
def n5:N10:=fun W R N E P x0 x2 x4 x8 x11 x13 x43 x44 x45 x46 h=>
aIf x46 (
n4 W R N E P x0 x2 x4 x8 x11 x13 x43 x44 x45 h) (
E 0 [x0,x4,x8,x11,x13] h)
def n6:N9:=fun W R N E P x0 x2 x4 x8 x11 x13 x43 x44 x45 h=>
pBin Try.prog .lss 3 false x45 x44 fun t21=>
n5 W R N E P x0 x2 x4 x8 x11 x13 x43 x44 x45 t21 h
def g1_:GK:=fun W R N E P N' vs h=>n6 W R N' (fun(i:Nat) (vs:List AV) (h:AH)=>if i=0 then n1 W R N E P (vs.getD 0 noA) (vs.getD 1 noA) (vs.getD 2 noA) (vs.getD 3 noA) (vs.getD 4 noA) h else E i vs h) P (vs.getD 0 noA) (vs.getD 1 noA) (vs.getD 2 noA) (vs.getD 3 noA) (vs.getD 4 noA) (vs.getD 5 noA) (vs.getD 6 noA) (vs.getD 7 noA) (vs.getD 8 noA) h
def n7:N9:=fun W R N E P x0 x2 x4 x8 x11 x13 x43 x44 x45 h=>
vLoop (g1_ W R N E P) [x0,x2,x4,x8,x11,x13,x43,x44,x45] h
def n8:N6:=fun W R N E P x0 x2 x4 x8 x11 x13 h=>
pNil x11 fun t22=>
pFld (some 1) t22 fun t23=>
lLd (some false) (some 1) t23 h fun t24 _=>
(strArg t24=false)/\pLen t24 fun t26=>
n7 W R N E P x0 x2 x4 x8 x11 x13 t24 t26 (.sc (.int .i64 0)) h
def n9:N5:=fun W R N E P x0 x2 x4 x8 x11 h=>
eMkM 120 h fun t27 h28=>
n8 W R N E P x0 x2 x4 x8 x11 t27 h28
def n10:N0:=fun _ R _ _ _ h=>
R [(.sc (.bool true))] h
def n11:N6:=fun W R N E P x0 x2 x4 x8 x11 x38 h=>
aIf x38 (
n10 W R N E P h) (
n9 W R N E P x0 x2 x4 x8 x11 h)
def n12:N5:=fun W R N E P x0 x2 x4 x8 x11 h=>
pNil x11 fun t29=>
pFld (some 5) t29 fun t30=>
lLd (some false) (some 1) t30 h fun t31 _=>
pBin Try.prog .eql 3 true t31 (.sc (.int .i64 0)) fun t33=>
n11 W R N E P x0 x2 x4 x8 x11 t33 h
def n13:N5:=fun W R _ _ P x0 x1 x2 x4 x8 h=>
pBld (some ([.int .i64 0,.string ⟨#[]⟩,.slice none 0 0,.int .i64 0,.bool false,.int .u64 0,.int .u64 0],.inl [(0,1),(1,1),(2,1),(3,1),(4,1),(5,1),(6,1)])) [(0,(.sc (.int .i64 1))),(1,x1),(2,x2)] fun t34=>
lLd (some true) (some 3) x8 h fun t35 _=>
aCall Try.prog W 43 [x0,t34,t35,x4] h (fun t37 h38=>
R [t37] h38) P
def n14:N7:=fun W R N E P x0 x1 x2 x4 x8 x11 x26 h=>
aIf x26 (
n13 W R N E P x0 x1 x2 x4 x8 h) (
n12 W R N E P x0 x2 x4 x8 x11 h)
def n15:N7:=fun W R N E P x0 x1 x2 x4 x8 x11 x12 h=>
pUn .not x12 fun t39=>
n14 W R N E P x0 x1 x2 x4 x8 x11 t39 h
def n16:N5:=fun W R N E P x0 x1 x2 x4 x8 h=>
pNil x0 fun t40=>
pFld (some 3) t40 fun t41=>
lLd (some false) (some 1) t41 h fun t42 _=>
lLook Try.prog (some (9,87)) t42 x1 true h fun t44 _=>
pExt t44 0 fun t46=>
pExt t44 1 fun t47=>
n15 W R N E P x0 x1 x2 x4 x8 t46 t47 h
def n17:N5:=fun W R N E P x0 x1 x2 x3 x4 h=>
eBox 3 69 x3 h fun t48 h49=>
n16 W R N E P x0 x1 x2 x4 t48 h49
theorem callsN{x0 x1 x2 x3 x4:AV}{h:AH}{M:WK}{R:RK}(hp:n17 (fun id=>M id\/h.next<=id) (retV Try.prog [.tmp 10] R) (retV Try.prog [.tmp 10] R) (fun _ _ _=>False) (fun v h=>R (.pan v) h) x0 x1 x2 x3 x4 h):ACalls Try.prog 41 [x0,x1,x2,x3,x4] h M R:=
 fin (n:=70) (pl:=[(12,⟨[(none,(fr 0 14))],false,[],[]⟩)]) (rs:=[.tmp 10]) (L:=rs) (fun c=>(a5 n17 0 1 2 3 4 c)) Try.mixed Try.func41 (fun c=>
(sq (a5 n17 0 1 2 3 4 c)
(sq (a5 n16 0 1 2 4 8 c)
(sn
(sn
(sq (a5 n9 0 2 4 8 11 c)
(sn
(sl (a5 n1 0 4 8 11 13 c))
(sq (a6 n8 0 2 4 8 11 13 c)
(bk 0 (lp [0,2,4,8,11,13,43,44,45] rs [(0,[0,4,8,11,13])] (a9 n7 0 2 4 8 11 13 43 44 45 c) g1_ (fun i vs h=>if i=0 then n1 c.W c.R c.N c.E c.P (vs.getD 0 noA) (vs.getD 1 noA) (vs.getD 2 noA) (vs.getD 3 noA) (vs.getD 4 noA) h else c.E i vs h) (.b (.t .o)) fun c=>
(sq (a9 n6 0 2 4 8 11 13 43 44 45 c)
(sn
(sn
(sm (a9 n2 0 2 4 8 11 13 43 44 45 c))
(bk 1 (sq (a9 n4 0 2 4 8 11 13 43 44 45 c)
(sm (a11 n3 0 2 4 8 11 13 14 15 43 44 45 c)))))
(cd (a10 n5 0 2 4 8 11 13 43 44 45 46 c) tr tr))))))))
(sq (a5 n12 0 2 4 8 11 c)
(cd (a6 n11 0 2 4 8 11 38 c) (sl (a0 n10 c)) tr)))
(sq (a7 n15 0 1 2 4 8 11 12 c)
(cd (a7 n14 0 1 2 4 8 11 26 c) (sl (a5 n13 0 1 2 4 8 c)) tr)))))) hp
attribute [simp] n1 n2 n3 n4 n5 n6 n8 n9 n10 n11 n12 n13 n14 n15 n16 n17
end F41
namespace F42
abbrev rs:List Nat:=[4]
def n1:N1:=fun _ R _ _ _ x5 h=>
R [x5] h
def n2:N5:=fun _ _ N _ _ x0 x5 x8 x9 x10 h=>
pBin Try.prog .add 3 true x10 (.sc (.int .i64 1)) fun t1=>
N [x0,x5,x8,x9,t1] h
def n3:N6:=fun W R N E P x0 x5 x7 x8 x9 x10 h=>
pNil x0 fun t2=>
pFld (some 1) t2 fun t3=>
lLd (some false) (some 1) t3 h fun t4 _=>
pFld (some 0) x7 fun t6=>
lLd (some false) (some 1) t6 h fun t7 _=>
lLook Try.prog (some (9,93)) t4 t7 false h fun t9 _=>
pFdV (some (0,1,false)) t9 fun t11=>
pFld (some 1) x7 fun t12=>
lLd (some false) (some 1) t12 h fun t13 _=>
pBin Try.prog .add 3 false t11 t13 fun t15=>
eBSl (some (1,3,[.int .i64 0])) 1 [(0,t15)] h fun t16 h17=>
eApp (some (1,8,3)) x5 t16 h17 W fun t18 h19=>
n2 W R N E P x0 t18 x8 x9 x10 h19
def n4:N5:=fun W R N E P x0 x5 x8 x9 x10 h=>
pIxA (some (2,none)) x8 x10 fun t20=>
lLd (some true) (some 2) t20 h fun t21 _=>
eAlloc (some [.string ⟨#[]⟩,.int .i64 0]) 2 44 h fun t23 h24=>
eStore (some 2) t23 t21 h24 W fun h25=>
n3 W R N E P x0 x5 t23 x8 x9 x10 h25
def n5:N6:=fun W R N E P x0 x5 x8 x9 x10 x11 h=>
aIf x11 (
n4 W R N E P x0 x5 x8 x9 x10 h) (
E 0 [x5] h)
def n6:N5:=fun W R N E P x0 x5 x8 x9 x10 h=>
pBin Try.prog .lss 3 false x10 x9 fun t26=>
n5 W R N E P x0 x5 x8 x9 x10 t26 h
def g1_:GK:=fun W R N E P N' vs h=>n6 W R N' (fun(i:Nat) (vs:List AV) (h:AH)=>if i=0 then n1 W R N E P (vs.getD 0 noA) h else E i vs h) P (vs.getD 0 noA) (vs.getD 1 noA) (vs.getD 2 noA) (vs.getD 3 noA) (vs.getD 4 noA) h
def n7:N5:=fun W R N E P x0 x5 x8 x9 x10 h=>
vLoop (g1_ W R N E P) [x0,x5,x8,x9,x10] h
def n8:N3:=fun W R N E P x0 x1 x5 h=>
(strArg x1=false)/\pLen x1 fun t27=>
n7 W R N E P x0 x5 x1 t27 (.sc (.int .i64 0)) h
def n9:N2:=fun W R N E P x0 x1 h=>
n8 W R N E P x0 x1 (.sc (.slice none 0 0)) h
def n10:N2:=fun W R N E P x0 x1 h=>
n9 W R N E P x0 x1 h
theorem callsN{x0 x1:AV}{h:AH}{M:WK}{R:RK}(hp:n10 (fun id=>M id\/h.next<=id) (retV Try.prog [.tmp 4] R) (retV Try.prog [.tmp 4] R) (fun _ _ _=>False) (fun v h=>R (.pan v) h) x0 x1 h):ACalls Try.prog 42 [x0,x1] h M R:=
 fin (n:=30) (pl:=[(5,⟨[(none,(fr 0 15))],false,[],[]⟩)]) (rs:=[.tmp 4]) (L:=rs) (fun c=>(a2 n10 0 1 c)) Try.mixed Try.func42 (fun c=>
(sq (a2 n10 0 1 c)
(sq (a2 n9 0 1 c)
(sn
(sl (a1 n1 5 c))
(sq (a3 n8 0 1 5 c)
(bk 0 (lp [0,5,8,9,10] rs [(0,[5])] (a5 n7 0 5 8 9 10 c) g1_ (fun i vs h=>if i=0 then n1 c.W c.R c.N c.E c.P (vs.getD 0 noA) h else c.E i vs h) (.b (.t .o)) fun c=>
(sq (a5 n6 0 5 8 9 10 c)
(sn
(sn
(sm (a5 n2 0 5 8 9 10 c))
(bk 1 (sq (a5 n4 0 5 8 9 10 c)
(sm (a6 n3 0 5 7 8 9 10 c)))))
(cd (a6 n5 0 5 8 9 10 11 c) tr tr)))))))))) hp
attribute [simp] n1 n2 n3 n4 n5 n6 n8 n9 n10
end F42
namespace F43
abbrev rs:List Nat:=[8]
def n1:N0:=fun _ R _ _ _ h=>
R [(.sc (.bool true))] h
def n2:N2:=fun W R N E P x0 x3 h=>
pNil x0 fun t1=>
pFld (some 4) t1 fun t2=>
lLd (some false) (some 1) t2 h fun t3 _=>
eBSl (some (1,3,[.int .i64 0])) 1 [(0,x3)] h fun t5 h6=>
eApp (some (1,8,3)) t3 t5 h6 W fun t7 h8=>
pNil x0 fun t9=>
pFld (some 4) t9 fun t10=>
eStore (some 1) t10 t7 h8 W fun h11=>
n1 W R N E P h11
def n3:N3:=fun W R N E P x0 x3 x5 h=>
pNil x0 fun t12=>
pFld (some 5) t12 fun t13=>
pFld (some 2) t13 fun t14=>
lLd (some false) (some 1) t14 h fun t15 _=>
lLd (some true) (some 7) x5 h fun t17 _=>
eBSl (some (7,49,[.int .i64 0,.string ⟨#[]⟩,.slice none 0 0,.int .i64 0,.bool false,.int .u64 0,.int .u64 0])) 1 [(0,t17)] h fun t19 h20=>
eApp (some (7,80,49)) t15 t19 h20 W fun t21 h22=>
pNil x0 fun t23=>
pFld (some 5) t23 fun t24=>
pFld (some 2) t24 fun t25=>
eStore (some 1) t25 t21 h22 W fun h26=>
n2 W R N E P x0 x3 h26
def n4:N4:=fun W R N E P x0 x3 x5 x6 h=>
∃Hd:Nat->Nat,(∀i∈[3,5],h.obj (Hd i)≠none)/\(
pFld (some 0) x6 fun t27=>
lLd (some false) (some 1) t27 h fun t28 _=>
pFld (some 1) x6 fun t30=>
lLd (some false) (some 1) t30 h fun t31 i32=>
(i32=Hd 3)/\(
pFld (some 2) x6 fun t33=>
lLd (some false) (some 1) t33 h fun t34 i35=>
(i35=Hd 5)/\(
pFld (some 4) x5 fun t36=>
eStore (some 1) t36 t28 h (banL W Hd [3,5]) fun h37=>
pFld (some 5) x5 fun t38=>
eStore (some 1) t38 t31 h37 (banL W Hd [5]) fun h39=>
pFld (some 6) x5 fun t40=>
eStore (some 1) t40 t34 h39 W fun h41=>
n3 W R N E P x0 x3 x5 h41)))
def n5:N0:=fun _ R _ _ _ h=>
R [(.sc (.bool false))] h
def n6:N2:=fun W R N E P x0 x3 h=>
pNil x0 fun t42=>
pFld (some 8) t42 fun t43=>
eStore (some 1) t43 x3 h W fun h44=>
n5 W R N E P h44
def n7:N5:=fun W R N E P x0 x3 x5 x6 x15 h=>
aIf x15 (
n6 W R N E P x0 x3 h) (
n4 W R N E P x0 x3 x5 x6 h)
def n8:N4:=fun W R N E P x0 x3 x5 x6 h=>
pNil x0 fun t45=>
pFld (some 5) t45 fun t46=>
pFld (some 2) t46 fun t47=>
lLd (some false) (some 1) t47 h fun t48 _=>
(strArg t48=false)/\pLen t48 fun t50=>
pBin Try.prog .eql 3 true t50 (.sc (.int .i64 4096)) fun t51=>
n7 W R N E P x0 x3 x5 x6 t51 h
def n9:N4:=fun W R N E P x0 x1 x2 x3 h=>
eBox 7 49 x1 h fun t52 h53=>
eBox 3 69 x2 h53 fun t54 h55=>
n8 W R N E P x0 x3 t52 t54 h55
theorem callsN{x0 x1 x2 x3:AV}{h:AH}{M:WK}{R:RK}(hp:n9 (fun id=>M id\/h.next<=id) (retV Try.prog [.tmp 8] R) (retV Try.prog [.tmp 8] R) (fun _ _ _=>False) (fun v h=>R (.pan v) h) x0 x1 x2 x3 h):ACalls Try.prog 43 [x0,x1,x2,x3] h M R:=
 fin (n:=51) (pl:=[(4,⟨[(none,[(0,false),(1,false),(2,false),(3,true),(4,false),(5,true),(6,false),(7,false),(8,false),(9,false),(10,false),(11,false)])],true,[],[]⟩),(5,⟨[(none,(fr 0 13))],false,[],[]⟩)]) (rs:=[.tmp 8]) (L:=rs) (fun c=>(a4 n9 0 1 2 3 c)) Try.mixed Try.func43 (fun c=>
(sq (a4 n9 0 1 2 3 c)
(sn
(sn
(sq (a3 n3 0 3 5 c)
(sq (a2 n2 0 3 c)
(sl (a0 n1 c))))
(sm (a4 n4 0 3 5 6 c)))
(sq (a4 n8 0 3 5 6 c)
(cd (a5 n7 0 3 5 6 15 c) (sq (a2 n6 0 3 c)
(sl (a0 n5 c))) tr))))) hp
attribute [simp] n1 n2 n3 n4 n5 n6 n7 n8 n9
end F43
namespace F64
abbrev rs:List Nat:=[12]
def n1:N0:=fun _ R _ _ _ h=>
R [(.sc (.bool true))] h
def n2:N6:=fun _ _ N _ _ x0 x2 x3 x5 x10 x13 h=>
pNil x0 fun t1=>
pFld (some 0) t1 fun t2=>
lLd (some false) (some 1) t2 h fun t3 _=>
pIxA (some (6,none)) t3 x13 fun t5=>
pFld (some 4) t5 fun t6=>
lLd (some false) (some 1) t6 h fun t7 _=>
pBin Try.prog .add 3 true (.sc (.int .i64 1)) t7 fun t9=>
pBin Try.prog .add 3 false x13 t9 fun t10=>
N [x0,x2,x3,x5,x10,t10] h
def n3:N0:=fun _ R _ _ _ h=>
R [(.sc (.bool false))] h
def n4:N7:=fun W R N E P x0 x2 x3 x5 x10 x13 x100 h=>
aIf x100 (
n3 W R N E P h) (
n2 W R N E P x0 x2 x3 x5 x10 x13 h)
def n5:N8:=fun W R N E P x0 x2 x3 x5 x10 x13 x14 x17 h=>
pFld (some 1) x14 fun t11=>
lLd (some false) (some 1) t11 h fun t12 _=>
lLd (some true) (some 3) x10 h fun t14 _=>
aCall Try.prog W 41 [x0,t12,x17,t14,x5] h (fun t16 h17=>
pUn .not t16 fun t18=>
n4 W R N E P x0 x2 x3 x5 x10 x13 t18 h17) P
def n6:N11:=fun _ _ N _ _ x0 x2 x3 x5 x10 x13 x14 x17 x79 x80 x81 h=>
pBin Try.prog .add 3 true x81 (.sc (.int .i64 1)) fun t19=>
N [x0,x2,x3,x5,x10,x13,x14,x17,x79,x80,t19] h
def n7:N12:=fun W R N E P x0 x2 x3 x5 x10 x13 x14 x17 x19 x79 x80 x81 h=>
pFld (some 0) x19 fun t20=>
lLd (some false) (some 1) t20 h fun t21 _=>
lLook Try.prog (some (9,3)) x3 t21 false h fun t23 _=>
eBSl (some (1,3,[.int .i64 0])) 1 [(0,t23)] h fun t25 h26=>
eApp (some (1,8,3)) x17 t25 h26 W fun t27 h28=>
n6 W R N E P x0 x2 x3 x5 x10 x13 x14 t27 x79 x80 x81 h28
def n8:N11:=fun W R N E P x0 x2 x3 x5 x10 x13 x14 x17 x79 x80 x81 h=>
pIxA (some (2,none)) x79 x81 fun t29=>
lLd (some true) (some 2) t29 h fun t30 _=>
eAlloc (some [.string ⟨#[]⟩,.int .i64 0]) 2 44 h fun t32 h33=>
eStore (some 2) t32 t30 h33 W fun h34=>
n7 W R N E P x0 x2 x3 x5 x10 x13 x14 x17 t32 x79 x80 x81 h34
def n9:N12:=fun W R N E P x0 x2 x3 x5 x10 x13 x14 x17 x79 x80 x81 x82 h=>
aIf x82 (
n8 W R N E P x0 x2 x3 x5 x10 x13 x14 x17 x79 x80 x81 h) (
E 4 [x0,x2,x3,x5,x10,x13,x14,x17] h)
def n10:N11:=fun W R N E P x0 x2 x3 x5 x10 x13 x14 x17 x79 x80 x81 h=>
pBin Try.prog .lss 3 false x81 x80 fun t35=>
n9 W R N E P x0 x2 x3 x5 x10 x13 x14 x17 x79 x80 x81 t35 h
def g2_:GK:=fun W R N E P N' vs h=>n10 W R N' (fun(i:Nat) (vs:List AV) (h:AH)=>if i=4 then n5 W R N E P (vs.getD 0 noA) (vs.getD 1 noA) (vs.getD 2 noA) (vs.getD 3 noA) (vs.getD 4 noA) (vs.getD 5 noA) (vs.getD 6 noA) (vs.getD 7 noA) h else if i=1 then n2 W R N E P (vs.getD 0 noA) (vs.getD 1 noA) (vs.getD 2 noA) (vs.getD 3 noA) (vs.getD 4 noA) (vs.getD 5 noA) h else E i vs h) P (vs.getD 0 noA) (vs.getD 1 noA) (vs.getD 2 noA) (vs.getD 3 noA) (vs.getD 4 noA) (vs.getD 5 noA) (vs.getD 6 noA) (vs.getD 7 noA) (vs.getD 8 noA) (vs.getD 9 noA) (vs.getD 10 noA) h
def n11:N11:=fun W R N E P x0 x2 x3 x5 x10 x13 x14 x17 x79 x80 x81 h=>
vLoop (g2_ W R N E P) [x0,x2,x3,x5,x10,x13,x14,x17,x79,x80,x81] h
def n12:N8:=fun W R N E P x0 x2 x3 x5 x10 x13 x14 x17 h=>
pFld (some 2) x14 fun t36=>
lLd (some false) (some 1) t36 h fun t37 _=>
(strArg t37=false)/\pLen t37 fun t39=>
n11 W R N E P x0 x2 x3 x5 x10 x13 x14 x17 t37 t39 (.sc (.int .i64 0)) h
def n13:N7:=fun W R N E P x0 x2 x3 x5 x10 x13 x14 h=>
n12 W R N E P x0 x2 x3 x5 x10 x13 x14 (.sc (.slice none 0 0)) h
def n14:N6:=fun W R N E P x0 x2 x3 x5 x10 x13 h=>
n2 W R N E P x0 x2 x3 x5 x10 x13 h
def n15:N8:=fun _ _ N _ _ x0 x2 x3 x5 x10 x13 x14 x15 h=>
pBin Try.prog .add 3 true x15 (.sc (.int .i64 1)) fun t40=>
N [x0,x2,x3,x5,x10,x13,x14,t40] h
def n16:N9:=fun W R N E P x0 x2 x3 x5 x10 x13 x14 x15 x77 h=>
aIf x77 (
E 2 [x0,x2,x3,x5,x10,x13] h) (
n15 W R N E P x0 x2 x3 x5 x10 x13 x14 x15 h)
def n17:N9:=fun W R N E P x0 x2 x3 x5 x10 x13 x14 x15 x16 h=>
pNil x0 fun t41=>
pFld (some 5) t41 fun t42=>
pFld (some 2) t42 fun t43=>
lLd (some false) (some 1) t43 h fun t44 _=>
(strArg t44=false)/\pLen t44 fun t46=>
pBin Try.prog .eql 3 false t46 x16 fun t47=>
n16 W R N E P x0 x2 x3 x5 x10 x13 x14 x15 t47 h
def n18:N0:=fun _ R _ _ _ h=>
R [(.sc (.bool false))] h
def n19:N10:=fun W R N E P x0 x2 x3 x5 x10 x13 x14 x15 x16 x69 h=>
aIf x69 (
n18 W R N E P h) (
n17 W R N E P x0 x2 x3 x5 x10 x13 x14 x15 x16 h)
def n20:N9:=fun W R N E P x0 x2 x3 x5 x10 x13 x14 x15 x16 h=>
pBin Try.prog .add 3 true x13 (.sc (.int .i64 1)) fun t48=>
pBin Try.prog .add 3 true x13 (.sc (.int .i64 1)) fun t49=>
pFld (some 4) x14 fun t50=>
lLd (some false) (some 1) t50 h fun t51 _=>
pBin Try.prog .add 3 false t49 t51 fun t53=>
lLd (some true) (some 3) x10 h fun t54 _=>
aCall Try.prog W 64 [x0,t48,t53,x3,t54,x5] h (fun t56 h57=>
pUn .not t56 fun t58=>
n19 W R N E P x0 x2 x3 x5 x10 x13 x14 x15 x16 t58 h57) P
def n21:N8:=fun W R N E P x0 x2 x3 x5 x10 x13 x14 x15 h=>
pNil x0 fun t59=>
pFld (some 5) t59 fun t60=>
pFld (some 2) t60 fun t61=>
lLd (some false) (some 1) t61 h fun t62 _=>
(strArg t62=false)/\pLen t62 fun t64=>
n20 W R N E P x0 x2 x3 x5 x10 x13 x14 x15 t64 h
def n22:N9:=fun W R N E P x0 x2 x3 x5 x10 x13 x14 x15 x48 h=>
aIf x48 (
n21 W R N E P x0 x2 x3 x5 x10 x13 x14 x15 h) (
E 2 [x0,x2,x3,x5,x10,x13] h)
def n23:N8:=fun W R N E P x0 x2 x3 x5 x10 x13 x14 x15 h=>
pFld (some 3) x14 fun t65=>
lLd (some false) (some 1) t65 h fun t66 _=>
pBin Try.prog .lss 3 false x15 t66 fun t68=>
n22 W R N E P x0 x2 x3 x5 x10 x13 x14 x15 t68 h
def g3_:GK:=fun W R N E P N' vs h=>n23 W R N' (fun(i:Nat) (vs:List AV) (h:AH)=>if i=2 then n14 W R N E P (vs.getD 0 noA) (vs.getD 1 noA) (vs.getD 2 noA) (vs.getD 3 noA) (vs.getD 4 noA) (vs.getD 5 noA) h else if i=1 then n2 W R N E P (vs.getD 0 noA) (vs.getD 1 noA) (vs.getD 2 noA) (vs.getD 3 noA) (vs.getD 4 noA) (vs.getD 5 noA) h else E i vs h) P (vs.getD 0 noA) (vs.getD 1 noA) (vs.getD 2 noA) (vs.getD 3 noA) (vs.getD 4 noA) (vs.getD 5 noA) (vs.getD 6 noA) (vs.getD 7 noA) h
def n24:N8:=fun W R N E P x0 x2 x3 x5 x10 x13 x14 x15 h=>
vLoop (g3_ W R N E P) [x0,x2,x3,x5,x10,x13,x14,x15] h
def n25:N7:=fun W R N E P x0 x2 x3 x5 x10 x13 x14 h=>
n24 W R N E P x0 x2 x3 x5 x10 x13 x14 (.sc (.int .i64 0)) h
def n26:N8:=fun W R N E P x0 x2 x3 x5 x10 x13 x14 x44 h=>
aIf x44 (
n25 W R N E P x0 x2 x3 x5 x10 x13 x14 h) (
n13 W R N E P x0 x2 x3 x5 x10 x13 x14 h)
def n27:N7:=fun W R N E P x0 x2 x3 x5 x10 x13 x14 h=>
pFld (some 0) x14 fun t69=>
lLd (some false) (some 1) t69 h fun t70 _=>
pBin Try.prog .eql 9 true t70 (.sc (.string ⟨#[114,101,112,101,97,116]⟩)) fun t72=>
n26 W R N E P x0 x2 x3 x5 x10 x13 x14 t72 h
def n28:N6:=fun W R N E P x0 x2 x3 x5 x10 x13 h=>
pNil x0 fun t73=>
pFld (some 0) t73 fun t74=>
lLd (some false) (some 1) t74 h fun t75 _=>
pIxA (some (6,none)) t75 x13 fun t77=>
lLd (some true) (some 6) t77 h fun t78 _=>
eAlloc (some [.string ⟨#[]⟩,.string ⟨#[]⟩,.slice none 0 0,.int .i64 0,.int .i64 0,.int .i64 0]) 6 42 h fun t80 h81=>
eStore (some 6) t80 t78 h81 W fun h82=>
n27 W R N E P x0 x2 x3 x5 x10 x13 t80 h82
def n29:N7:=fun W R N E P x0 x2 x3 x5 x10 x13 x23 h=>
aIf x23 (
n28 W R N E P x0 x2 x3 x5 x10 x13 h) (
E 0 [] h)
def n30:N6:=fun W R N E P x0 x2 x3 x5 x10 x13 h=>
pBin Try.prog .lss 3 false x13 x2 fun t83=>
n29 W R N E P x0 x2 x3 x5 x10 x13 t83 h
def g1_:GK:=fun W R N E P N' vs h=>n30 W R N' (fun(i:Nat) (vs:List AV) (h:AH)=>if i=0 then n1 W R N E P h else E i vs h) P (vs.getD 0 noA) (vs.getD 1 noA) (vs.getD 2 noA) (vs.getD 3 noA) (vs.getD 4 noA) (vs.getD 5 noA) h
def n31:N6:=fun W R N E P x0 x2 x3 x5 x10 x13 h=>
vLoop (g1_ W R N E P) [x0,x2,x3,x5,x10,x13] h
def n32:N6:=fun W R N E P x0 x1 x2 x3 x5 x10 h=>
n31 W R N E P x0 x2 x3 x5 x10 x1 h
def n33:N6:=fun W R N E P x0 x1 x2 x3 x4 x5 h=>
eBox 3 69 x4 h fun t84 h85=>
n32 W R N E P x0 x1 x2 x3 x5 t84 h85
theorem callsN{x0 x1 x2 x3 x4 x5:AV}{h:AH}{M:WK}{R:RK}(hp:n33 (fun id=>M id\/h.next<=id) (retV Try.prog [.tmp 12] R) (retV Try.prog [.tmp 12] R) (fun _ _ _=>False) (fun v h=>R (.pan v) h) x0 x1 x2 x3 x4 x5 h):ACalls Try.prog 64 [x0,x1,x2,x3,x4,x5] h M R:=
 fin (n:=101) (pl:=[]) (rs:=[.tmp 12]) (L:=rs) (fun c=>(a6 n33 0 1 2 3 4 5 c)) Try.mixed Try.func64 (fun c=>
(sq (a6 n33 0 1 2 3 4 5 c)
(sn
(sl (a0 n1 c))
(sq (a6 n32 0 1 2 3 5 10 c)
(bk 0 (lp [0,2,3,5,10,13] rs [(0,[])] (a6 n31 0 2 3 5 10 13 c) g1_ (fun i vs h=>if i=0 then n1 c.W c.R c.N c.E c.P h else c.E i vs h) (.b (.t .o)) fun c=>
(sn
(sn
(sm (a6 n2 0 2 3 5 10 13 c))
(bk 1 (sq (a6 n28 0 2 3 5 10 13 c)
(sn
(sq (a7 n13 0 2 3 5 10 13 14 c)
(sn
(sq (a8 n5 0 2 3 5 10 13 14 17 c)
(cd (a7 n4 0 2 3 5 10 13 100 c) (sl (a0 n3 c)) tr))
(sq (a8 n12 0 2 3 5 10 13 14 17 c)
(bk 4 (lp [0,2,3,5,10,13,14,17,79,80,81] rs [(4,[0,2,3,5,10,13,14,17]),(1,[0,2,3,5,10,13]),(0,[])] (a11 n11 0 2 3 5 10 13 14 17 79 80 81 c) g2_ (fun i vs h=>if i=4 then n5 c.W c.R c.N c.E c.P (vs.getD 0 noA) (vs.getD 1 noA) (vs.getD 2 noA) (vs.getD 3 noA) (vs.getD 4 noA) (vs.getD 5 noA) (vs.getD 6 noA) (vs.getD 7 noA) h else if i=1 then n2 c.W c.R c.N c.E c.P (vs.getD 0 noA) (vs.getD 1 noA) (vs.getD 2 noA) (vs.getD 3 noA) (vs.getD 4 noA) (vs.getD 5 noA) h else c.E i vs h) (.b (.t (.b (.t .o)))) fun c=>
(sq (a11 n10 0 2 3 5 10 13 14 17 79 80 81 c)
(sn
(sn
(sm (a11 n6 0 2 3 5 10 13 14 17 79 80 81 c))
(bk 5 (sq (a11 n8 0 2 3 5 10 13 14 17 79 80 81 c)
(sm (a12 n7 0 2 3 5 10 13 14 17 19 79 80 81 c)))))
(cd (a12 n9 0 2 3 5 10 13 14 17 79 80 81 82 c) tr tr))))))))
(sq (a7 n27 0 2 3 5 10 13 14 c)
(cd (a8 n26 0 2 3 5 10 13 14 44 c) (sn
(sm (a6 n14 0 2 3 5 10 13 c))
(sq (a7 n25 0 2 3 5 10 13 14 c)
(bk 2 (lp [0,2,3,5,10,13,14,15] rs [(2,[0,2,3,5,10,13]),(1,[0,2,3,5,10,13]),(0,[])] (a8 n24 0 2 3 5 10 13 14 15 c) g3_ (fun i vs h=>if i=2 then n14 c.W c.R c.N c.E c.P (vs.getD 0 noA) (vs.getD 1 noA) (vs.getD 2 noA) (vs.getD 3 noA) (vs.getD 4 noA) (vs.getD 5 noA) h else if i=1 then n2 c.W c.R c.N c.E c.P (vs.getD 0 noA) (vs.getD 1 noA) (vs.getD 2 noA) (vs.getD 3 noA) (vs.getD 4 noA) (vs.getD 5 noA) h else c.E i vs h) (.b (.t (.t (.b (.t .o))))) fun c=>
(sn
(sn
(sm (a8 n15 0 2 3 5 10 13 14 15 c))
(bk 3 (sq (a8 n21 0 2 3 5 10 13 14 15 c)
(sn
(sq (a9 n17 0 2 3 5 10 13 14 15 16 c)
(cd (a9 n16 0 2 3 5 10 13 14 15 77 c) tr tr))
(sq (a9 n20 0 2 3 5 10 13 14 15 16 c)
(cd (a10 n19 0 2 3 5 10 13 14 15 16 69 c) (sl (a0 n18 c)) tr))))))
(sq (a8 n23 0 2 3 5 10 13 14 15 c)
(cd (a9 n22 0 2 3 5 10 13 14 15 48 c) tr tr))))))) tr))))))
(sq (a6 n30 0 2 3 5 10 13 c)
(cd (a7 n29 0 2 3 5 10 13 23 c) tr tr))))))))) hp
attribute [simp] n1 n2 n3 n4 n5 n6 n7 n8 n9 n10 n12 n13 n14 n15 n16 n17 n18 n19 n20 n21 n22 n23 n25 n26 n27 n28 n29 n30 n32 n33
end F64
namespace F22
abbrev rs:List Nat:=[8]
def n1:N0:=fun _ R _ _ _ h=>
R [(.sc (.bool true))] h
def n2:N4:=fun _ _ N _ _ x0 x2 x7 x9 h=>
pNil x0 fun t1=>
pFld (some 0) t1 fun t2=>
lLd (some false) (some 1) t2 h fun t3 _=>
pIxA (some (6,none)) t3 x9 fun t5=>
pFld (some 4) t5 fun t6=>
lLd (some false) (some 1) t6 h fun t7 _=>
pBin Try.prog .add 3 true (.sc (.int .i64 1)) t7 fun t9=>
pBin Try.prog .add 3 false x9 t9 fun t10=>
N [x0,x2,x7,t10] h
def n3:N0:=fun _ R _ _ _ h=>
R [(.sc (.bool false))] h
def n4:N5:=fun W R N E P x0 x2 x7 x9 x183 h=>
aIf x183 (
n3 W R N E P h) (
n2 W R N E P x0 x2 x7 x9 h)
def n5:N5:=fun W R N E P x0 x2 x7 x9 x11 h=>
pUn .not x11 fun t11=>
n4 W R N E P x0 x2 x7 x9 t11 h
def n6:N7:=fun _ _ N _ _ x0 x2 x7 x9 x10 x11 x12 h=>
pBin Try.prog .add 3 true x12 (.sc (.int .i64 1)) fun t12=>
N [x0,x2,x7,x9,x10,x11,t12] h
def n7:N8:=fun W R N E P x0 x2 x7 x9 x10 x11 x12 x76 h=>
aIf x76 (
E 3 [x0,x2,x7,x9,x11] h) (
n6 W R N E P x0 x2 x7 x9 x10 x11 x12 h)
def n8:N8:=fun W R N E P x0 x2 x7 x9 x10 x11 x12 x13 h=>
pNil x0 fun t13=>
pFld (some 5) t13 fun t14=>
pFld (some 2) t14 fun t15=>
lLd (some false) (some 1) t15 h fun t16 _=>
(strArg t16=false)/\pLen t16 fun t18=>
pBin Try.prog .eql 3 false t18 x13 fun t19=>
n7 W R N E P x0 x2 x7 x9 x10 x11 x12 t19 h
def n9:N7:=fun W R N E P x0 x2 x7 x9 x10 x12 x13 h=>
pBin Try.prog .add 3 true x9 (.sc (.int .i64 1)) fun t20=>
pBin Try.prog .add 3 true x9 (.sc (.int .i64 1)) fun t21=>
pFld (some 4) x10 fun t22=>
lLd (some false) (some 1) t22 h fun t23 _=>
pBin Try.prog .add 3 false t21 t23 fun t25=>
lLd (some true) (some 3) x7 h fun t26 _=>
aCall Try.prog W 22 [x0,t20,t25,t26] h (fun t28 h29=>
n8 W R N E P x0 x2 x7 x9 x10 t28 x12 x13 h29) P
def n10:N6:=fun W R N E P x0 x2 x7 x9 x10 x12 h=>
pNil x0 fun t30=>
pFld (some 5) t30 fun t31=>
pFld (some 2) t31 fun t32=>
lLd (some false) (some 1) t32 h fun t33 _=>
(strArg t33=false)/\pLen t33 fun t35=>
n9 W R N E P x0 x2 x7 x9 x10 x12 t35 h
def n11:N8:=fun W R N E P x0 x2 x7 x9 x10 x11 x12 x50 h=>
aIf x50 (
n10 W R N E P x0 x2 x7 x9 x10 x12 h) (
E 3 [x0,x2,x7,x9,x11] h)
def n12:N9:=fun W R N E P x0 x2 x7 x9 x10 x11 x12 x48 x49 h=>
pPick x48 x49 (.sc (.bool false)) fun t36=>
n11 W R N E P x0 x2 x7 x9 x10 x11 x12 t36 h
def n13:N8:=fun W R N E P x0 x2 x7 x9 x10 x11 x12 x48 h=>
aIg true x48 (
n12 W R N E P x0 x2 x7 x9 x10 x11 x12 x48 x11 h) (
n12 W R N E P x0 x2 x7 x9 x10 x11 x12 x48 noA h)
def n14:N7:=fun W R N E P x0 x2 x7 x9 x10 x11 x12 h=>
pFld (some 3) x10 fun t37=>
lLd (some false) (some 1) t37 h fun t38 _=>
pBin Try.prog .lss 3 false x12 t38 fun t40=>
n13 W R N E P x0 x2 x7 x9 x10 x11 x12 t40 h
def g2_:GK:=fun W R N E P N' vs h=>n14 W R N' (fun(i:Nat) (vs:List AV) (h:AH)=>if i=3 then n5 W R N E P (vs.getD 0 noA) (vs.getD 1 noA) (vs.getD 2 noA) (vs.getD 3 noA) (vs.getD 4 noA) h else if i=2 then n5 W R N E P (vs.getD 0 noA) (vs.getD 1 noA) (vs.getD 2 noA) (vs.getD 3 noA) (vs.getD 4 noA) h else if i=1 then n2 W R N E P (vs.getD 0 noA) (vs.getD 1 noA) (vs.getD 2 noA) (vs.getD 3 noA) h else E i vs h) P (vs.getD 0 noA) (vs.getD 1 noA) (vs.getD 2 noA) (vs.getD 3 noA) (vs.getD 4 noA) (vs.getD 5 noA) (vs.getD 6 noA) h
def n15:N7:=fun W R N E P x0 x2 x7 x9 x10 x11 x12 h=>
vLoop (g2_ W R N E P) [x0,x2,x7,x9,x10,x11,x12] h
def n16:N6:=fun W R N E P x0 x2 x7 x9 x10 x11 h=>
n15 W R N E P x0 x2 x7 x9 x10 x11 (.sc (.int .i64 0)) h
def n17:N7:=fun W R N E P x0 x2 x7 x9 x10 x15 x16 h=>
pBin Try.prog .add 3 true x9 (.sc (.int .i64 1)) fun t41=>
pBin Try.prog .add 3 true x9 (.sc (.int .i64 1)) fun t42=>
pFld (some 4) x10 fun t43=>
lLd (some false) (some 1) t43 h fun t44 _=>
pBin Try.prog .add 3 false t42 t44 fun t46=>
pFld (some 1) x7 fun t47=>
lLd (some false) (some 1) t47 h fun t48 _=>
pBin Try.prog .or 47 false t48 x15 fun t50=>
pFld (some 2) x7 fun t51=>
lLd (some false) (some 1) t51 h fun t52 _=>
pBin Try.prog .or 47 false t52 x16 fun t54=>
pBld (some ([.bool false,.int .u64 0,.int .u64 0],.inl [(0,1),(1,1),(2,1)])) [(0,(.sc (.bool true))),(1,t50),(2,t54)] fun t55=>
aCall Try.prog W 22 [x0,t41,t46,t55] h (fun t56 h57=>
n5 W R N E P x0 x2 x7 x9 t56 h57) P
def n18:N8:=fun W R N E P x0 x2 x7 x9 x10 x15 x16 x107 h=>
aIf x107 (
n2 W R N E P x0 x2 x7 x9 h) (
n17 W R N E P x0 x2 x7 x9 x10 x15 x16 h)
def n19:N7:=fun W R N E P x0 x2 x7 x9 x10 x15 x16 h=>
pFld (some 2) x7 fun t58=>
lLd (some false) (some 1) t58 h fun t59 _=>
pBin Try.prog .and 47 false t59 x15 fun t61=>
pFld (some 1) x7 fun t62=>
lLd (some false) (some 1) t62 h fun t63 _=>
pBin Try.prog .and 47 false x16 t63 fun t65=>
pBin Try.prog .neq 47 false t61 t65 fun t66=>
n18 W R N E P x0 x2 x7 x9 x10 x15 x16 t66 h
def n20:N7:=fun W R N E P x0 x2 x7 x9 x10 x14 x15 h=>
pFld (some 3) x10 fun t67=>
lLd (some false) (some 1) t67 h fun t68 _=>
pCnv (some .u64) t68 fun t70=>
pFld (some 0) x14 fun t71=>
lLd (some false) (some 1) t71 h fun t72 _=>
pBin Try.prog .shl 47 false t70 t72 fun t74=>
n19 W R N E P x0 x2 x7 x9 x10 x15 t74 h
def n21:N6:=fun W R N E P x0 x2 x7 x9 x10 x14 h=>
pFld (some 1) x14 fun t75=>
lLd (some false) (some 1) t75 h fun t76 _=>
pBin Try.prog .shl 47 true (.sc (.int .u64 1)) t76 fun t78=>
pBin Try.prog .sub 47 true t78 (.sc (.int .u64 1)) fun t79=>
pFld (some 0) x14 fun t80=>
lLd (some false) (some 1) t80 h fun t81 _=>
pBin Try.prog .shl 47 false t79 t81 fun t83=>
n20 W R N E P x0 x2 x7 x9 x10 x14 t83 h
def n22:N5:=fun W R N E P x0 x2 x7 x9 x10 h=>
pNil x0 fun t84=>
pFld (some 2) t84 fun t85=>
lLd (some false) (some 1) t85 h fun t86 _=>
pFld (some 1) x10 fun t88=>
lLd (some false) (some 1) t88 h fun t89 _=>
lLook Try.prog (some (9,93)) t86 t89 false h fun t91 _=>
eAlloc (some [.int .i64 0,.int .i64 0]) 2 93 h fun t93 h94=>
eStore (some 2) t93 t91 h94 W fun h95=>
n21 W R N E P x0 x2 x7 x9 x10 t93 h95
def n23:N5:=fun W R N E P x0 x2 x7 x9 x10 h=>
∃Hd:Nat->Nat,(∀i∈[2,7,9],h.obj (Hd i)≠none)/\(
pFld (some 1) x10 fun t96=>
lLd (some false) (some 1) t96 h fun t97 i98=>
(i98=Hd 2)/\(
pFld (some 2) x10 fun t99=>
lLd (some false) (some 1) t99 h fun t100 _=>
lLd (some true) (some 3) x7 h fun t102 i103=>
(i103=Hd 7)/\(
pFld (some 5) x10 fun t104=>
lLd (some false) (some 1) t104 h fun t105 i106=>
(i106=Hd 9)/\(
aCall Try.prog (banL W Hd [2,7,9]) 42 [x0,t100] h (fun t107 h108=>
aCall Try.prog W 41 [x0,t97,t107,t102,t105] h108 (fun t109 h110=>
n5 W R N E P x0 x2 x7 x9 t109 h110) P) P))))
def n24:N6:=fun W R N E P x0 x2 x7 x9 x10 x17 h=>
∃Hd:Nat->Nat,(∀i∈[8,10],h.obj (Hd i)≠none)/\(
pFld (some 2) x10 fun t111=>
lLd (some false) (some 1) t111 h fun t112 _=>
pSlL (some 2) t112 none (some (.sc (.int .i64 1))) h fun t114=>
lLd (some true) (some 3) x7 h fun t115 i116=>
(i116=Hd 8)/\(
pFld (some 5) x10 fun t117=>
lLd (some false) (some 1) t117 h fun t118 i119=>
(i119=Hd 10)/\(
aCall Try.prog (banL W Hd [8,10]) 42 [x0,t114] h (fun t120 h121=>
pBld (some ([.int .i64 0,.string ⟨#[]⟩,.slice none 0 0,.int .i64 0,.bool false,.int .u64 0,.int .u64 0],.inl [(0,1),(1,1),(2,1),(3,1),(4,1),(5,1),(6,1)])) [(0,(.sc (.int .i64 2))),(2,t120),(3,x17)] fun t122=>
aCall Try.prog W 43 [x0,t122,t115,t118] h121 (fun t123 h124=>
n5 W R N E P x0 x2 x7 x9 t123 h124) P) P)))
def n25:N5:=fun W R N E P x0 x2 x7 x9 x10 h=>
pNil x0 fun t125=>
pFld (some 2) t125 fun t126=>
lLd (some false) (some 1) t126 h fun t127 _=>
pFld (some 2) x10 fun t129=>
lLd (some false) (some 1) t129 h fun t130 _=>
pIxA (some (2,none)) t130 (.sc (.int .i64 1)) fun t132=>
pFld (some 0) t132 fun t133=>
lLd (some false) (some 1) t133 h fun t134 _=>
lLook Try.prog (some (9,93)) t127 t134 false h fun t136 _=>
pFdV (some (0,1,false)) t136 fun t138=>
pFld (some 2) x10 fun t139=>
lLd (some false) (some 1) t139 h fun t140 _=>
pIxA (some (2,none)) t140 (.sc (.int .i64 1)) fun t142=>
pFld (some 1) t142 fun t143=>
lLd (some false) (some 1) t143 h fun t144 _=>
pBin Try.prog .add 3 false t138 t144 fun t146=>
n24 W R N E P x0 x2 x7 x9 x10 t146 h
def n26:N5:=fun W R N E P x0 x2 x7 x9 x10 h=>
∃Hd:Nat->Nat,(∀i∈[6,8],h.obj (Hd i)≠none)/\(
pFld (some 2) x10 fun t147=>
lLd (some false) (some 1) t147 h fun t148 _=>
lLd (some true) (some 3) x7 h fun t150 i151=>
(i151=Hd 6)/\(
pFld (some 5) x10 fun t152=>
lLd (some false) (some 1) t152 h fun t153 i154=>
(i154=Hd 8)/\(
aCall Try.prog (banL W Hd [6,8]) 42 [x0,t148] h (fun t155 h156=>
pBld (some ([.int .i64 0,.string ⟨#[]⟩,.slice none 0 0,.int .i64 0,.bool false,.int .u64 0,.int .u64 0],.inl [(0,1),(1,1),(2,1),(3,1),(4,1),(5,1),(6,1)])) [(0,(.sc (.int .i64 3))),(2,t155)] fun t157=>
aCall Try.prog W 43 [x0,t157,t150,t153] h156 (fun t158 h159=>
n5 W R N E P x0 x2 x7 x9 t158 h159) P) P)))
def n27:N7:=fun W R N E P x0 x2 x7 x9 x10 x11 x170 h=>
aIf x170 (
n26 W R N E P x0 x2 x7 x9 x10 h) (
n5 W R N E P x0 x2 x7 x9 x11 h)
def n28:N7:=fun W R N E P x0 x2 x7 x9 x10 x11 x41 h=>
pBin Try.prog .eql 9 true x41 (.sc (.string ⟨#[114,101,115,101,116]⟩)) fun t160=>
n27 W R N E P x0 x2 x7 x9 x10 x11 t160 h
def n29:N8:=fun W R N E P x0 x2 x7 x9 x10 x11 x41 x139 h=>
aIf x139 (
n25 W R N E P x0 x2 x7 x9 x10 h) (
n28 W R N E P x0 x2 x7 x9 x10 x11 x41 h)
def n30:N7:=fun W R N E P x0 x2 x7 x9 x10 x11 x41 h=>
pBin Try.prog .eql 9 true x41 (.sc (.string ⟨#[109,101,97,115,117,114,101]⟩)) fun t161=>
n29 W R N E P x0 x2 x7 x9 x10 x11 x41 t161 h
def n31:N8:=fun W R N E P x0 x2 x7 x9 x10 x11 x41 x126 h=>
aIf x126 (
n23 W R N E P x0 x2 x7 x9 x10 h) (
n30 W R N E P x0 x2 x7 x9 x10 x11 x41 h)
def n32:N7:=fun W R N E P x0 x2 x7 x9 x10 x11 x41 h=>
pBin Try.prog .eql 9 true x41 (.sc (.string ⟨#[117,115,101]⟩)) fun t162=>
n31 W R N E P x0 x2 x7 x9 x10 x11 x41 t162 h
def n33:N8:=fun W R N E P x0 x2 x7 x9 x10 x11 x41 x77 h=>
aIf x77 (
n22 W R N E P x0 x2 x7 x9 x10 h) (
n32 W R N E P x0 x2 x7 x9 x10 x11 x41 h)
def n34:N7:=fun W R N E P x0 x2 x7 x9 x10 x11 x41 h=>
pBin Try.prog .eql 9 true x41 (.sc (.string ⟨#[105,102]⟩)) fun t163=>
n33 W R N E P x0 x2 x7 x9 x10 x11 x41 t163 h
def n35:N8:=fun W R N E P x0 x2 x7 x9 x10 x11 x41 x42 h=>
aIf x42 (
n16 W R N E P x0 x2 x7 x9 x10 x11 h) (
n34 W R N E P x0 x2 x7 x9 x10 x11 x41 h)
def n36:N7:=fun W R N E P x0 x2 x7 x9 x10 x11 x41 h=>
pBin Try.prog .eql 9 true x41 (.sc (.string ⟨#[114,101,112,101,97,116]⟩)) fun t164=>
n35 W R N E P x0 x2 x7 x9 x10 x11 x41 t164 h
def n37:N6:=fun W R N E P x0 x2 x7 x9 x10 x11 h=>
pFld (some 0) x10 fun t165=>
lLd (some false) (some 1) t165 h fun t166 _=>
n36 W R N E P x0 x2 x7 x9 x10 x11 t166 h
def n38:N5:=fun W R N E P x0 x2 x7 x9 x10 h=>
n37 W R N E P x0 x2 x7 x9 x10 (.sc (.bool true)) h
def n39:N4:=fun W R N E P x0 x2 x7 x9 h=>
pNil x0 fun t168=>
pFld (some 0) t168 fun t169=>
lLd (some false) (some 1) t169 h fun t170 _=>
pIxA (some (6,none)) t170 x9 fun t172=>
lLd (some true) (some 6) t172 h fun t173 _=>
eAlloc (some [.string ⟨#[]⟩,.string ⟨#[]⟩,.slice none 0 0,.int .i64 0,.int .i64 0,.int .i64 0]) 6 42 h fun t175 h176=>
eStore (some 6) t175 t173 h176 W fun h177=>
n38 W R N E P x0 x2 x7 x9 t175 h177
def n40:N5:=fun W R N E P x0 x2 x7 x9 x21 h=>
aIf x21 (
n39 W R N E P x0 x2 x7 x9 h) (
E 0 [] h)
def n41:N4:=fun W R N E P x0 x2 x7 x9 h=>
pBin Try.prog .lss 3 false x9 x2 fun t178=>
n40 W R N E P x0 x2 x7 x9 t178 h
def g1_:GK:=fun W R N E P N' vs h=>n41 W R N' (fun(i:Nat) (vs:List AV) (h:AH)=>if i=0 then n1 W R N E P h else E i vs h) P (vs.getD 0 noA) (vs.getD 1 noA) (vs.getD 2 noA) (vs.getD 3 noA) h
def n42:N4:=fun W R N E P x0 x2 x7 x9 h=>
vLoop (g1_ W R N E P) [x0,x2,x7,x9] h
def n43:N4:=fun W R N E P x0 x1 x2 x7 h=>
n42 W R N E P x0 x2 x7 x1 h
def n44:N4:=fun W R N E P x0 x1 x2 x3 h=>
eBox 3 69 x3 h fun t179 h180=>
n43 W R N E P x0 x1 x2 t179 h180
theorem callsN{x0 x1 x2 x3:AV}{h:AH}{M:WK}{R:RK}(hp:n44 (fun id=>M id\/h.next<=id) (retV Try.prog [.tmp 8] R) (retV Try.prog [.tmp 8] R) (fun _ _ _=>False) (fun v h=>R (.pan v) h) x0 x1 x2 x3 h):ACalls Try.prog 22 [x0,x1,x2,x3] h M R:=
 fin (n:=184) (pl:=[(9,⟨[(none,(fr 0 5)),(some (4,true),(fr 5 1)),(none,(fr 6 1))],false,[],[]⟩),(15,⟨[(none,(fr 0 9))],false,[],[]⟩),(16,⟨[(none,(fr 0 8))],false,[],[]⟩),(21,⟨[(none,[(0,false),(1,false),(2,true),(3,false),(4,false),(5,false),(7,true),(8,false),(9,true),(6,false),(10,false),(11,false)])],true,[],[]⟩),(23,⟨[(none,(fr 0 18))],false,[],[]⟩),(24,⟨[(none,[(0,false),(1,false),(2,false),(3,false),(4,false),(6,false),(8,true),(9,false),(10,true),(5,false),(7,false),(11,false),(12,false)])],true,[],[]⟩),(26,⟨[(none,[(0,false),(1,false),(2,false),(3,false),(6,true),(7,false),(8,true),(4,false),(5,false),(9,false),(10,false)])],true,[],[]⟩)]) (rs:=[.tmp 8]) (L:=rs) (fun c=>(a4 n44 0 1 2 3 c)) Try.mixed Try.func22 (fun c=>
(sq (a4 n44 0 1 2 3 c)
(sn
(sl (a0 n1 c))
(sq (a4 n43 0 1 2 7 c)
(bk 0 (lp [0,2,7,9] rs [(0,[])] (a4 n42 0 2 7 9 c) g1_ (fun i vs h=>if i=0 then n1 c.W c.R c.N c.E c.P h else c.E i vs h) (.b (.t .o)) fun c=>
(sn
(sn
(sm (a4 n2 0 2 7 9 c))
(bk 1 (sq (a4 n39 0 2 7 9 c)
(sq (a5 n38 0 2 7 9 10 c)
(sn
(sq (a5 n5 0 2 7 9 11 c)
(cd (a5 n4 0 2 7 9 183 c) (sl (a0 n3 c)) tr))
(sq (a6 n37 0 2 7 9 10 11 c)
(bk 2 (sq (a7 n36 0 2 7 9 10 11 41 c)
(cd (a8 n35 0 2 7 9 10 11 41 42 c) (sq (a6 n16 0 2 7 9 10 11 c)
(bk 3 (lp [0,2,7,9,10,11,12] rs [(3,[0,2,7,9,11]),(2,[0,2,7,9,11]),(1,[0,2,7,9]),(0,[])] (a7 n15 0 2 7 9 10 11 12 c) g2_ (fun i vs h=>if i=3 then n5 c.W c.R c.N c.E c.P (vs.getD 0 noA) (vs.getD 1 noA) (vs.getD 2 noA) (vs.getD 3 noA) (vs.getD 4 noA) h else if i=2 then n5 c.W c.R c.N c.E c.P (vs.getD 0 noA) (vs.getD 1 noA) (vs.getD 2 noA) (vs.getD 3 noA) (vs.getD 4 noA) h else if i=1 then n2 c.W c.R c.N c.E c.P (vs.getD 0 noA) (vs.getD 1 noA) (vs.getD 2 noA) (vs.getD 3 noA) h else c.E i vs h) (.b (.b (.t (.b (.t .o))))) fun c=>
(sn
(sn
(sm (a7 n6 0 2 7 9 10 11 12 c))
(bk 4 (sq (a6 n10 0 2 7 9 10 12 c)
(sq (a7 n9 0 2 7 9 10 12 13 c)
(sq (a8 n8 0 2 7 9 10 11 12 13 c)
(cd (a8 n7 0 2 7 9 10 11 12 76 c) tr tr))))))
(sn
(cd (a8 n11 0 2 7 9 10 11 12 50 c) tr tr)
(gr (gn (a7 n14 0 2 7 9 10 11 12 c) (gx (a8 n13 0 2 7 9 10 11 12 48 c) (gl (a9 n12 0 2 7 9 10 11 12 48 49 c)))))))))) (sq (a7 n34 0 2 7 9 10 11 41 c)
(cd (a8 n33 0 2 7 9 10 11 41 77 c) (sq (a5 n22 0 2 7 9 10 c)
(sq (a6 n21 0 2 7 9 10 14 c)
(sq (a7 n20 0 2 7 9 10 14 15 c)
(sn
(sm (a7 n17 0 2 7 9 10 15 16 c))
(sq (a7 n19 0 2 7 9 10 15 16 c)
(cd (a8 n18 0 2 7 9 10 15 16 107 c) tr tr)))))) (sq (a7 n32 0 2 7 9 10 11 41 c)
(cd (a8 n31 0 2 7 9 10 11 41 126 c) (sm (a5 n23 0 2 7 9 10 c)) (sq (a7 n30 0 2 7 9 10 11 41 c)
(cd (a8 n29 0 2 7 9 10 11 41 139 c) (sq (a5 n25 0 2 7 9 10 c)
(sm (a6 n24 0 2 7 9 10 17 c))) (sq (a7 n28 0 2 7 9 10 11 41 c)
(cd (a7 n27 0 2 7 9 10 11 170 c) (sm (a5 n26 0 2 7 9 10 c)) tr)))))))))))))))))
(sq (a4 n41 0 2 7 9 c)
(cd (a5 n40 0 2 7 9 21 c) tr tr))))))))) hp
attribute [simp] n1 n2 n3 n4 n5 n6 n7 n8 n9 n10 n11 n12 n13 n14 n16 n17 n18 n19 n20 n21 n22 n23 n24 n25 n26 n27 n28 n29 n30 n31 n32 n33 n34 n35 n36 n37 n38 n39 n40 n41 n43 n44
end F22
end
end Go.Proofs.Ytjehibknlmehmaa
