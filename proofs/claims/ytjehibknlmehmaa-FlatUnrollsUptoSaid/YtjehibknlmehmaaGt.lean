/- Bodies of the law, of alive and Read; printed. No condition. -/
import Derived.Test.YtjehibknlmehmaaGl
set_option maxRecDepth 100000
namespace Go.Proofs.Ytjehibknlmehmaa
section
open Go.Ab
namespace F7
abbrev rs:List Nat:=[0]
def n1:N1:=fun _ R _ _ _ x0 h=>
R [x0] h
def n2:N2:=fun W R N E P x86 x92 h=>
pPick x86 x92 (.sc (.bool false)) fun t1=>
n1 W R N E P t1 h
def n3:N2:=fun W R N E P x1 x86 h=>
aIg true x86 (
pFld (some 2) x1 fun t2=>
lLd (some false) (some 1) t2 h fun t3 _=>
pIxA (some (7,none)) t3 (.sc (.int .i64 1)) fun t5=>
pFld (some 6) t5 fun t6=>
lLd (some false) (some 1) t6 h fun t7 _=>
pBin Try.prog .eql 47 true t7 (.sc (.int .u64 4)) fun t9=>
n2 W R N E P x86 t9 h) (
n2 W R N E P x86 noA h)
def n4:N3:=fun W R N E P x1 x78 x84 h=>
pPick x78 x84 (.sc (.bool false)) fun t10=>
n3 W R N E P x1 t10 h
def n5:N2:=fun W R N E P x1 x78 h=>
aIg true x78 (
pFld (some 2) x1 fun t11=>
lLd (some false) (some 1) t11 h fun t12 _=>
pIxA (some (7,none)) t12 (.sc (.int .i64 1)) fun t14=>
pFld (some 5) t14 fun t15=>
lLd (some false) (some 1) t15 h fun t16 _=>
pBin Try.prog .eql 47 true t16 (.sc (.int .u64 4)) fun t18=>
n4 W R N E P x1 x78 t18 h) (
n4 W R N E P x1 x78 noA h)
def n6:N3:=fun W R N E P x1 x71 x76 h=>
pPick x71 x76 (.sc (.bool false)) fun t19=>
n5 W R N E P x1 t19 h
def n7:N2:=fun W R N E P x1 x71 h=>
aIg true x71 (
pFld (some 2) x1 fun t20=>
lLd (some false) (some 1) t20 h fun t21 _=>
pIxA (some (7,none)) t21 (.sc (.int .i64 1)) fun t23=>
pFld (some 4) t23 fun t24=>
lLd (some false) (some 1) t24 h fun t25 _=>
n6 W R N E P x1 x71 t25 h) (
n6 W R N E P x1 x71 noA h)
def n8:N3:=fun W R N E P x1 x63 x69 h=>
pPick x63 x69 (.sc (.bool false)) fun t27=>
n7 W R N E P x1 t27 h
def n9:N2:=fun W R N E P x1 x63 h=>
aIg true x63 (
pFld (some 2) x1 fun t28=>
lLd (some false) (some 1) t28 h fun t29 _=>
pIxA (some (7,none)) t29 (.sc (.int .i64 0)) fun t31=>
pFld (some 3) t31 fun t32=>
lLd (some false) (some 1) t32 h fun t33 _=>
pBin Try.prog .eql 3 true t33 (.sc (.int .i64 2)) fun t35=>
n8 W R N E P x1 x63 t35 h) (
n8 W R N E P x1 x63 noA h)
def n10:N3:=fun W R N E P x1 x57 x61 h=>
pPick x57 x61 (.sc (.bool false)) fun t36=>
n9 W R N E P x1 t36 h
def n11:N2:=fun W R N E P x1 x57 h=>
aIg true x57 (
pFld (some 2) x1 fun t37=>
lLd (some false) (some 1) t37 h fun t38 _=>
(strArg t38=false)/\pLen t38 fun t40=>
pBin Try.prog .eql 3 true t40 (.sc (.int .i64 2)) fun t41=>
n10 W R N E P x1 x57 t41 h) (
n10 W R N E P x1 x57 noA h)
def n12:N3:=fun W R N E P x1 x52 x55 h=>
pPick x52 x55 (.sc (.bool false)) fun t42=>
n11 W R N E P x1 t42 h
def n13:N2:=fun W R N E P x1 x52 h=>
aIg true x52 (
pFld (some 1) x1 fun t43=>
lLd (some false) (some 1) t43 h fun t44 _=>
pBin Try.prog .eql 3 true t44 (.sc (.int .i64 3)) fun t46=>
n12 W R N E P x1 x52 t46 h) (
n12 W R N E P x1 x52 noA h)
def n14:N1:=fun W R N E P x1 h=>
pFld (some 0) x1 fun t47=>
lLd (some false) (some 1) t47 h fun t48 _=>
pBin Try.prog .eql 3 true t48 (.sc (.int .i64 1)) fun t50=>
n13 W R N E P x1 t50 h
def n15:N0:=fun _ R _ _ _ h=>
R [(.sc (.bool false))] h
def n16:N2:=fun W R N E P x1 x48 h=>
aIf x48 (
n15 W R N E P h) (
n14 W R N E P x1 h)
def n17:N3:=fun W R N E P x1 x45 x47 h=>
pPick x45 (.sc (.bool true)) x47 fun t51=>
n16 W R N E P x1 t51 h
def n18:N3:=fun W R N E P x1 x8 x45 h=>
aIg false x45 (
pBin Try.prog .neq 3 true x8 (.sc (.int .i64 26)) fun t52=>
n17 W R N E P x1 x45 t52 h) (
n17 W R N E P x1 x45 noA h)
def n19:N4:=fun W R N E P x1 x8 x41 x43 h=>
pPick x41 (.sc (.bool true)) x43 fun t53=>
n18 W R N E P x1 x8 t53 h
def n20:N4:=fun W R N E P x1 x8 x9 x41 h=>
aIg false x41 (
pBin Try.prog .neq 30 true x9 (.sc (.int .i64 115)) fun t54=>
n19 W R N E P x1 x8 x41 t54 h) (
n19 W R N E P x1 x8 x41 noA h)
def n21:N5:=fun W R N E P x1 x8 x9 x37 x39 h=>
pPick x37 (.sc (.bool true)) x39 fun t55=>
n20 W R N E P x1 x8 x9 t55 h
def n22:N5:=fun W R N E P x1 x5 x8 x9 x37 h=>
aIg false x37 (
pBin Try.prog .neq 3 true x5 (.sc (.int .i64 11)) fun t56=>
n21 W R N E P x1 x8 x9 x37 t56 h) (
n21 W R N E P x1 x8 x9 x37 noA h)
def n23:N6:=fun W R N E P x1 x5 x8 x9 x33 x35 h=>
pPick x33 (.sc (.bool true)) x35 fun t57=>
n22 W R N E P x1 x5 x8 x9 t57 h
def n24:N6:=fun W R N E P x1 x5 x6 x8 x9 x33 h=>
aIg false x33 (
pBin Try.prog .neq 30 true x6 (.sc (.int .i64 114)) fun t58=>
n23 W R N E P x1 x5 x8 x9 x33 t58 h) (
n23 W R N E P x1 x5 x8 x9 x33 noA h)
def n25:N7:=fun W R N E P x1 x5 x6 x8 x9 x29 x31 h=>
pPick x29 (.sc (.bool true)) x31 fun t59=>
n24 W R N E P x1 x5 x6 x8 x9 t59 h
def n26:N7:=fun W R N E P x1 x2 x5 x6 x8 x9 x29 h=>
aIg false x29 (
pBin Try.prog .neq 3 true x2 (.sc (.int .i64 0)) fun t60=>
n25 W R N E P x1 x5 x6 x8 x9 x29 t60 h) (
n25 W R N E P x1 x5 x6 x8 x9 x29 noA h)
def n27:N8:=fun W R N E P x1 x2 x5 x6 x8 x9 x25 x27 h=>
pPick x25 (.sc (.bool true)) x27 fun t61=>
n26 W R N E P x1 x2 x5 x6 x8 x9 t61 h
def n28:N8:=fun W R N E P x1 x2 x3 x5 x6 x8 x9 x25 h=>
aIg false x25 (
pBin Try.prog .neq 30 true x3 (.sc (.int .i64 0)) fun t62=>
n27 W R N E P x1 x2 x5 x6 x8 x9 x25 t62 h) (
n27 W R N E P x1 x2 x5 x6 x8 x9 x25 noA h)
def n29:N7:=fun W R N E P x1 x2 x3 x5 x6 x8 x9 h=>
n28 W R N E P x1 x2 x3 x5 x6 x8 x9 (.sc (.bool false)) h
def n30:N5:=fun W R N E P x1 x2 x3 x5 x6 h=>
aCall Try.prog W 12 [(.sc (.string ⟨#[113,117,98,105,116,115,32,113,32,49,59,32,114,101,112,101,97,116,32,53,48,48,48,32,123,32,120,32,113,91,48,93,59,32,125]⟩))] h (fun t63 h64=>
pExt t63 0 fun t65=>
pExt t63 1 fun t66=>
pExt t63 2 fun t67=>
eAlloc (some [.int .i64 0,.int .i64 0,.slice none 0 0]) 3 27 h64 fun t68 h69=>
eStore (some 3) t68 t65 h69 W fun h70=>
n29 W R N E P x1 x2 x3 x5 x6 t66 t67 h70) P
def n31:N3:=fun W R N E P x1 x2 x3 h=>
aCall Try.prog W 12 [(.sc (.string ⟨#[103,97,116,101,32,103,32,120,32,123,32,103,32,120,59,32,125]⟩))] h (fun t71 h72=>
pExt t71 0 fun t73=>
pExt t71 1 fun t74=>
pExt t71 2 fun t75=>
eAlloc (some [.int .i64 0,.int .i64 0,.slice none 0 0]) 3 27 h72 fun t76 h77=>
eStore (some 3) t76 t73 h77 W fun h78=>
n30 W R N E P x1 x2 x3 t74 t75 h78) P
def n32:N0:=fun W R N E P h=>
aCall Try.prog W 12 [(.sc (.string ⟨#[113,117,98,105,116,115,32,113,32,49,59,32,98,105,116,115,32,99,32,50,59,32,98,105,116,115,32,100,32,49,59,32,109,101,97,115,117,114,101,32,113,91,48,93,32,100,91,48,93,59,32,105,102,32,100,32,49,32,123,32,120,32,113,91,48,93,59,32,125]⟩))] h (fun t79 h80=>
pExt t79 0 fun t81=>
pExt t79 1 fun t82=>
pExt t79 2 fun t83=>
eAlloc (some [.int .i64 0,.int .i64 0,.slice none 0 0]) 3 27 h80 fun t84 h85=>
eStore (some 3) t84 t81 h85 W fun h86=>
n31 W R N E P t84 t82 t83 h86) P
def n33:N0:=fun W R N E P h=>
n32 W R N E P h
theorem callsN{h:AH}{M:WK}{R:RK}(hp:n33 (fun id=>M id\/h.next<=id) (retV Try.prog [.tmp 0] R) (retV Try.prog [.tmp 0] R) (fun _ _ _=>False) (fun v h=>R (.pan v) h) h):ACalls Try.prog 7 [] h M R:=
 fin (n:=94) (pl:=[(4,⟨[(none,(fr 0 1)),(some (0,false),(fr 1 2)),(none,(fr 3 2)),(some (4,false),(fr 5 2)),(none,(fr 7 2)),(some (8,false),(fr 9 2)),(none,(fr 11 2)),(some (12,false),(fr 13 2)),(none,(fr 15 2)),(some (16,false),(fr 17 2)),(none,(fr 19 2)),(some (20,false),(fr 21 2)),(none,(fr 23 1))],false,[],[]⟩),(6,⟨[(none,(fr 0 4)),(some (3,true),(fr 4 3)),(none,(fr 7 2)),(some (8,true),(fr 9 4)),(none,(fr 13 2)),(some (14,true),(fr 15 6)),(none,(fr 21 2)),(some (22,true),(fr 23 5)),(none,(fr 28 2)),(some (29,true),(fr 30 6)),(none,(fr 36 2)),(some (37,true),(fr 38 6)),(none,(fr 44 2))],false,[],[]⟩)]) (rs:=[.tmp 0]) (L:=rs) (fun c=>(a0 n33 c)) Try.mixed Try.func7 (fun c=>
(sq (a0 n33 c)
(sq (a0 n32 c)
(sq (a3 n31 1 2 3 c)
(sq (a5 n30 1 2 3 5 6 c)
(sn
(sn
(sm (a1 n1 0 c))
(gr (gn (a1 n14 1 c) (gx (a2 n13 1 52 c) (gn (a3 n12 1 52 55 c) (gx (a2 n11 1 57 c) (gn (a3 n10 1 57 61 c) (gx (a2 n9 1 63 c) (gn (a3 n8 1 63 69 c) (gx (a2 n7 1 71 c) (gn (a3 n6 1 71 76 c) (gx (a2 n5 1 78 c) (gn (a3 n4 1 78 84 c) (gx (a2 n3 1 86 c) (gl (a2 n2 86 92 c))))))))))))))))
(sn
(cd (a2 n16 1 48 c) (sl (a0 n15 c)) tr)
(gr (gn (a7 n29 1 2 3 5 6 8 9 c) (gx (a8 n28 1 2 3 5 6 8 9 25 c) (gn (a8 n27 1 2 5 6 8 9 25 27 c) (gx (a7 n26 1 2 5 6 8 9 29 c) (gn (a7 n25 1 5 6 8 9 29 31 c) (gx (a6 n24 1 5 6 8 9 33 c) (gn (a6 n23 1 5 8 9 33 35 c) (gx (a5 n22 1 5 8 9 37 c) (gn (a5 n21 1 8 9 37 39 c) (gx (a4 n20 1 8 9 41 c) (gn (a4 n19 1 8 41 43 c) (gx (a3 n18 1 8 45 c) (gl (a3 n17 1 45 47 c)))))))))))))))))))))) hp
attribute [simp] n1 n2 n3 n4 n5 n6 n7 n8 n9 n10 n11 n12 n13 n14 n15 n16 n17 n18 n19 n20 n21 n22 n23 n24 n25 n26 n27 n28 n29 n30 n31 n32 n33
end F7
namespace F8
abbrev rs:List Nat:=[2]
def n1:N1:=fun _ R _ _ _ x0 h=>
(strArg x0=false)/\pLen x0 fun t1=>
pBin Try.prog .gtr 3 true t1 (.sc (.int .i64 20000)) fun t2=>
R [t2] h
def n2:N1:=fun W R N E P x0 h=>
n1 W R N E P x0 h
theorem callsN{x0:AV}{h:AH}{M:WK}{R:RK}(hp:n2 (fun id=>M id\/h.next<=id) (retV Try.prog [.tmp 2] R) (retV Try.prog [.tmp 2] R) (fun _ _ _=>False) (fun v h=>R (.pan v) h) x0 h):ACalls Try.prog 8 [x0] h M R:=
 fin (n:=6) (pl:=[]) (rs:=[.tmp 2]) (L:=rs) (fun c=>(a1 n2 0 c)) Try.mixed Try.func8 (fun c=>
(sq (a1 n2 0 c)
(sl (a1 n1 0 c)))) hp
attribute [simp] n1 n2
end F8
namespace F12
abbrev rs:List Nat:=[2,3,4]
def n1:N2:=fun W R _ _ P x2 x5 h=>
aCall Try.prog W 10 [x5] h (fun t1 h2=>
pExt t1 0 fun t3=>
pExt t1 1 fun t4=>
pExt t1 2 fun t5=>
eStore (some 3) x2 t3 h2 W fun h6=>
R [x2,t4,t5] h6) P
def n2:N3:=fun W R _ _ _ x2 x6 x7 h=>
pBld (some ([.int .i64 0,.int .i64 0,.slice none 0 0],.inl [(0,1),(1,1),(2,1)])) [] fun t7=>
eStore (some 3) x2 t7 h W fun h8=>
R [x2,x6,x7] h8
def n3:N5:=fun W R N E P x2 x5 x6 x7 x15 h=>
aIf x15 (
n2 W R N E P x2 x6 x7 h) (
n1 W R N E P x2 x5 h)
def n4:N4:=fun W R N E P x2 x5 x6 x7 h=>
pBin Try.prog .neq 30 true x7 (.sc (.int .i64 0)) fun t9=>
n3 W R N E P x2 x5 x6 x7 t9 h
def n5:N2:=fun W R N E P x0 x2 h=>
aCall Try.prog W 24 [x0] h (fun t10 h11=>
pExt t10 0 fun t12=>
pExt t10 1 fun t13=>
pExt t10 2 fun t14=>
n4 W R N E P x2 t12 t13 t14 h11) P
def n6:N1:=fun W R N E P x0 h=>
eAlloc (some [.int .i64 0,.int .i64 0,.slice none 0 0]) 3 27 h fun t15 h16=>
n5 W R N E P x0 t15 h16
theorem callsN{x0:AV}{h:AH}{M:WK}{R:RK}(hp:n6 (fun id=>M id\/h.next<=id) (retV Try.prog [.cell 2 27,.tmp 3,.tmp 4] R) (retV Try.prog [.cell 2 27,.tmp 3,.tmp 4] R) (fun _ _ _=>False) (fun v h=>R (.pan v) h) x0 h):ACalls Try.prog 12 [x0] h M R:=
 fin (n:=24) (pl:=[]) (rs:=[.cell 2 27,.tmp 3,.tmp 4]) (L:=rs) (fun c=>(a1 n6 0 c)) Try.mixed Try.func12 (fun c=>
(sq (a1 n6 0 c)
(sq (a2 n5 0 2 c)
(sn
(sl (a2 n1 2 5 c))
(sq (a4 n4 2 5 6 7 c)
(cd (a5 n3 2 5 6 7 15 c) (sl (a3 n2 2 6 7 c)) tr)))))) hp
attribute [simp] n1 n2 n3 n4 n5 n6
end F12
end
section
open Go.Ab
namespace F5
abbrev rs:List Nat:=[2]
def n1:N1:=fun _ R _ _ _ x2 h=>
R [x2] h
def n2:N2:=fun W R N E P x41 x44 h=>
pPick x41 x44 (.sc (.bool false)) fun t1=>
n1 W R N E P t1 h
def n3:N3:=fun W R N E P x3 x8 x41 h=>
aIg true x41 (
lLd (some true) (some 3) x3 h fun t2 _=>
lLd (some true) (some 3) x8 h fun t4 _=>
aCall Try.prog W 11 [t2,t4] h (fun t6 h7=>
n2 W R N E P x41 t6 h7) P) (
n2 W R N E P x41 noA h)
def n4:N3:=fun W R N E P x3 x8 x10 h=>
pBin Try.prog .eql 30 true x10 (.sc (.int .i64 0)) fun t8=>
n3 W R N E P x3 x8 t8 h
def n5:N2:=fun W R N E P x3 x6 h=>
aCall Try.prog W 10 [x6] h (fun t9 h10=>
pExt t9 0 fun t11=>
pExt t9 1 fun t12=>
pExt t9 2 fun t13=>
eAlloc (some [.int .i64 0,.int .i64 0,.slice none 0 0]) 3 27 h10 fun t14 h15=>
eStore (some 3) t14 t11 h15 W fun h16=>
n4 W R N E P x3 t14 t13 h16) P
def n6:N0:=fun _ R _ _ _ h=>
R [(.sc (.bool true))] h
def n7:N3:=fun W R N E P x3 x6 x32 h=>
aIf x32 (
n6 W R N E P h) (
n5 W R N E P x3 x6 h)
def n8:N3:=fun W R N E P x3 x6 x7 h=>
pUn .not x7 fun t17=>
n7 W R N E P x3 x6 t17 h
def n9:N2:=fun W R N E P x0 x3 h=>
aCall Try.prog W 14 [x0] h (fun t18 h19=>
pExt t18 0 fun t20=>
pExt t18 1 fun t21=>
n8 W R N E P x3 t20 t21 h19) P
def n10:N1:=fun W R _ _ P x3 h=>
lLd (some true) (some 3) x3 h fun t22 _=>
pBld (some ([.int .i64 0,.int .i64 0,.slice none 0 0],.inl [(0,1),(1,1),(2,1)])) [] fun t24=>
aCall Try.prog W 11 [t22,t24] h (fun t25 h26=>
R [t25] h26) P
def n11:N3:=fun W R N E P x0 x3 x22 h=>
aIf x22 (
n10 W R N E P x3 h) (
n9 W R N E P x0 x3 h)
def n12:N3:=fun W R N E P x0 x3 x5 h=>
pBin Try.prog .neq 30 true x5 (.sc (.int .i64 0)) fun t27=>
n11 W R N E P x0 x3 t27 h
def n13:N1:=fun W R N E P x0 h=>
aCall Try.prog W 10 [x0] h (fun t28 h29=>
pExt t28 0 fun t30=>
pExt t28 1 fun t31=>
pExt t28 2 fun t32=>
eAlloc (some [.int .i64 0,.int .i64 0,.slice none 0 0]) 3 27 h29 fun t33 h34=>
eStore (some 3) t33 t30 h34 W fun h35=>
n12 W R N E P x0 t33 t32 h35) P
def n14:N0:=fun _ R _ _ _ h=>
R [(.sc (.bool true))] h
def n15:N2:=fun W R N E P x0 x14 h=>
aIf x14 (
n14 W R N E P h) (
n13 W R N E P x0 h)
def n16:N1:=fun W R N E P x0 h=>
aCall Try.prog W 8 [x0] h (fun t36 h37=>
n15 W R N E P x0 t36 h37) P
def n17:N0:=fun _ R _ _ _ h=>
R [(.sc (.bool false))] h
def n18:N2:=fun W R N E P x0 x12 h=>
aIf x12 (
n17 W R N E P h) (
n16 W R N E P x0 h)
def n19:N1:=fun W R N E P x0 h=>
aCall Try.prog W 7 [] h (fun t38 h39=>
pUn .not t38 fun t40=>
n18 W R N E P x0 t40 h39) P
def n20:N1:=fun W R N E P x0 h=>
n19 W R N E P x0 h
theorem callsN{x0:AV}{h:AH}{M:WK}{R:RK}(hp:n20 (fun id=>M id\/h.next<=id) (retV Try.prog [.tmp 2] R) (retV Try.prog [.tmp 2] R) (fun _ _ _=>False) (fun v h=>R (.pan v) h) x0 h):ACalls Try.prog 5 [x0] h M R:=
 fin (n:=46) (pl:=[(12,⟨[(none,(fr 0 3)),(some (2,true),(fr 3 3)),(none,(fr 6 2))],false,[],[]⟩)]) (rs:=[.tmp 2]) (L:=rs) (fun c=>(a1 n20 0 c)) Try.mixed Try.func5 (fun c=>
(sq (a1 n20 0 c)
(sn
(sn
(sq (a1 n13 0 c)
(sn
(sq (a2 n9 0 3 c)
(sn
(sq (a2 n5 3 6 c)
(sn
(sm (a1 n1 2 c))
(gr (gn (a3 n4 3 8 10 c) (gx (a3 n3 3 8 41 c) (gl (a2 n2 41 44 c)))))))
(sq (a3 n8 3 6 7 c)
(cd (a3 n7 3 6 32 c) (sl (a0 n6 c)) tr))))
(sq (a3 n12 0 3 5 c)
(cd (a3 n11 0 3 22 c) (sl (a1 n10 3 c)) tr))))
(sq (a1 n16 0 c)
(cd (a2 n15 0 14 c) (sl (a0 n14 c)) tr)))
(sq (a1 n19 0 c)
(cd (a2 n18 0 12 c) (sl (a0 n17 c)) tr))))) hp
attribute [simp] n1 n2 n3 n4 n5 n6 n7 n8 n9 n10 n11 n12 n13 n14 n15 n16 n17 n18 n19 n20
end F5
namespace F14
abbrev rs:List Nat:=[2,3]
def n1:N0:=fun _ R _ _ _ h=>
R [(.sc (.slice none 0 0)),(.sc (.bool false))] h
def n2:N2:=fun _ _ N _ _ x0 x4 h=>
pBin Try.prog .add 3 true x4 (.sc (.int .i64 1)) fun t1=>
N [x0,t1] h
def n3:N3:=fun W R _ _ _ x0 x6 x7 h=>
pSlL (some 6) x0 (some x7) none h fun t2=>
eApp (some (6,80,42)) x6 t2 h W fun t3 h4=>
R [t3,(.sc (.bool true))] h4
def n4:N6:=fun _ _ N _ _ x0 x4 x6 x7 x9 x10 h=>
pBin Try.prog .add 3 true x10 (.sc (.int .i64 1)) fun t5=>
N [x0,x4,x6,x7,x9,t5] h
def n5:N7:=fun W R N E P x0 x4 x6 x7 x9 x10 x79 h=>
aIf x79 (
pIxA (some (6,none)) x6 x10 fun t6=>
pFld (some 4) t6 fun t7=>
lLd (some false) (some 1) t7 h fun t8 _=>
pBin Try.prog .add 3 false t8 x9 fun t10=>
pIxA (some (6,none)) x6 x10 fun t11=>
pFld (some 4) t11 fun t12=>
eStore (some 1) t12 t10 h W fun h13=>
n4 W R N E P x0 x4 x6 x7 x9 x10 h13) (
n4 W R N E P x0 x4 x6 x7 x9 x10 h)
def n6:N6:=fun W R N E P x0 x4 x6 x7 x9 x10 h=>
pIxA (some (6,none)) x6 x10 fun t14=>
pFld (some 4) t14 fun t15=>
lLd (some false) (some 1) t15 h fun t16 _=>
pBin Try.prog .add 3 false x10 t16 fun t18=>
pBin Try.prog .geq 3 false t18 x4 fun t19=>
n5 W R N E P x0 x4 x6 x7 x9 x10 t19 h
def n7:N7:=fun W R N E P x0 x4 x6 x7 x9 x10 x68 h=>
aIf x68 (
n6 W R N E P x0 x4 x6 x7 x9 x10 h) (
E 4 [x0,x6,x7] h)
def n8:N6:=fun W R N E P x0 x4 x6 x7 x9 x10 h=>
pBin Try.prog .lss 3 false x10 x4 fun t20=>
n7 W R N E P x0 x4 x6 x7 x9 x10 t20 h
def g2_:GK:=fun W R N E P N' vs h=>n8 W R N' (fun(i:Nat) (vs:List AV) (h:AH)=>if i=4 then n3 W R N E P (vs.getD 0 noA) (vs.getD 1 noA) (vs.getD 2 noA) h else if i=1 then n2 W R N E P (vs.getD 0 noA) (vs.getD 1 noA) h else E i vs h) P (vs.getD 0 noA) (vs.getD 1 noA) (vs.getD 2 noA) (vs.getD 3 noA) (vs.getD 4 noA) (vs.getD 5 noA) h
def n9:N6:=fun W R N E P x0 x4 x6 x7 x9 x10 h=>
vLoop (g2_ W R N E P) [x0,x4,x6,x7,x9,x10] h
def n10:N5:=fun W R N E P x0 x4 x6 x7 x9 h=>
n9 W R N E P x0 x4 x6 x7 x9 (.sc (.int .i64 0)) h
def n11:N5:=fun W R N E P x0 x4 x5 x6 x7 h=>
pFld (some 3) x5 fun t21=>
lLd (some false) (some 1) t21 h fun t22 _=>
pBin Try.prog .sub 3 true t22 (.sc (.int .i64 1)) fun t24=>
pFld (some 4) x5 fun t25=>
lLd (some false) (some 1) t25 h fun t26 _=>
pBin Try.prog .mul 3 false t24 t26 fun t28=>
pBin Try.prog .sub 3 true t28 (.sc (.int .i64 1)) fun t29=>
n10 W R N E P x0 x4 x6 x7 t29 h
def n12:N6:=fun _ _ N _ _ x0 x4 x5 x6 x7 x8 h=>
pBin Try.prog .add 3 true x8 (.sc (.int .i64 1)) fun t30=>
N [x0,x4,x5,x6,x7,t30] h
def n13:N6:=fun W R N E P x0 x4 x5 x6 x7 x8 h=>
pBin Try.prog .add 3 true x4 (.sc (.int .i64 1)) fun t31=>
pSlL (some 6) x0 (some t31) (some x7) h fun t32=>
eApp (some (6,80,42)) x6 t32 h W fun t33 h34=>
n12 W R N E P x0 x4 x5 t33 x7 x8 h34
def n14:N7:=fun W R N E P x0 x4 x5 x6 x7 x8 x49 h=>
aIf x49 (
n13 W R N E P x0 x4 x5 x6 x7 x8 h) (
E 2 [x0,x4,x5,x6,x7] h)
def n15:N6:=fun W R N E P x0 x4 x5 x6 x7 x8 h=>
pFld (some 3) x5 fun t35=>
lLd (some false) (some 1) t35 h fun t36 _=>
pBin Try.prog .lss 3 false x8 t36 fun t38=>
n14 W R N E P x0 x4 x5 x6 x7 x8 t38 h
def g3_:GK:=fun W R N E P N' vs h=>n15 W R N' (fun(i:Nat) (vs:List AV) (h:AH)=>if i=2 then n11 W R N E P (vs.getD 0 noA) (vs.getD 1 noA) (vs.getD 2 noA) (vs.getD 3 noA) (vs.getD 4 noA) h else if i=1 then n2 W R N E P (vs.getD 0 noA) (vs.getD 1 noA) h else E i vs h) P (vs.getD 0 noA) (vs.getD 1 noA) (vs.getD 2 noA) (vs.getD 3 noA) (vs.getD 4 noA) (vs.getD 5 noA) h
def n16:N6:=fun W R N E P x0 x4 x5 x6 x7 x8 h=>
vLoop (g3_ W R N E P) [x0,x4,x5,x6,x7,x8] h
def n17:N5:=fun W R N E P x0 x4 x5 x6 x7 h=>
n16 W R N E P x0 x4 x5 x6 x7 (.sc (.int .i64 0)) h
def n18:N4:=fun W R N E P x0 x4 x5 x6 h=>
pBin Try.prog .add 3 true x4 (.sc (.int .i64 1)) fun t39=>
pFld (some 4) x5 fun t40=>
lLd (some false) (some 1) t40 h fun t41 _=>
pBin Try.prog .add 3 false t39 t41 fun t43=>
n17 W R N E P x0 x4 x5 x6 t43 h
def n19:N3:=fun W R N E P x0 x4 x5 h=>
eBSl (some (6,42,[])) 0 [] h fun t44 h45=>
pSlL (some 6) x0 none (some x4) h45 fun t46=>
eApp (some (6,80,42)) t44 t46 h45 W fun t47 h48=>
n18 W R N E P x0 x4 x5 t47 h48
def n20:N4:=fun W R N E P x0 x4 x5 x35 h=>
aIf x35 (
n2 W R N E P x0 x4 h) (
n19 W R N E P x0 x4 x5 h)
def n21:N5:=fun W R N E P x0 x4 x5 x31 x34 h=>
pPick x31 (.sc (.bool true)) x34 fun t49=>
n20 W R N E P x0 x4 x5 t49 h
def n22:N4:=fun W R N E P x0 x4 x5 x31 h=>
aIg false x31 (
pFld (some 3) x5 fun t50=>
lLd (some false) (some 1) t50 h fun t51 _=>
pBin Try.prog .gtr 3 true t51 (.sc (.int .i64 20)) fun t53=>
n21 W R N E P x0 x4 x5 x31 t53 h) (
n21 W R N E P x0 x4 x5 x31 noA h)
def n23:N3:=fun W R N E P x0 x4 x5 h=>
pFld (some 0) x5 fun t54=>
lLd (some false) (some 1) t54 h fun t55 _=>
pBin Try.prog .neq 9 true t55 (.sc (.string ⟨#[114,101,112,101,97,116]⟩)) fun t57=>
n22 W R N E P x0 x4 x5 t57 h
def n24:N3:=fun W R N E P x0 x4 x5 h=>
pFld (some 4) x5 fun t58=>
lLd (some false) (some 1) t58 h fun t59 _=>
pBin Try.prog .add 3 false x4 t59 fun t61=>
n2 W R N E P x0 t61 h
def n25:N4:=fun W R N E P x0 x4 x5 x23 h=>
aIf x23 (
n24 W R N E P x0 x4 x5 h) (
n23 W R N E P x0 x4 x5 h)
def n26:N3:=fun W R N E P x0 x4 x5 h=>
pFld (some 0) x5 fun t62=>
lLd (some false) (some 1) t62 h fun t63 _=>
pBin Try.prog .eql 9 true t63 (.sc (.string ⟨#[103,97,116,101]⟩)) fun t65=>
n25 W R N E P x0 x4 x5 t65 h
def n27:N2:=fun W R N E P x0 x4 h=>
pIxA (some (6,none)) x0 x4 fun t66=>
lLd (some true) (some 6) t66 h fun t67 _=>
eAlloc (some [.string ⟨#[]⟩,.string ⟨#[]⟩,.slice none 0 0,.int .i64 0,.int .i64 0,.int .i64 0]) 6 42 h fun t69 h70=>
eStore (some 6) t69 t67 h70 W fun h71=>
n26 W R N E P x0 x4 t69 h71
def n28:N3:=fun W R N E P x0 x4 x14 h=>
aIf x14 (
n27 W R N E P x0 x4 h) (
E 0 [] h)
def n29:N2:=fun W R N E P x0 x4 h=>
(strArg x0=false)/\pLen x0 fun t72=>
pBin Try.prog .lss 3 false x4 t72 fun t73=>
n28 W R N E P x0 x4 t73 h
def g1_:GK:=fun W R N E P N' vs h=>n29 W R N' (fun(i:Nat) (vs:List AV) (h:AH)=>if i=0 then n1 W R N E P h else E i vs h) P (vs.getD 0 noA) (vs.getD 1 noA) h
def n30:N2:=fun W R N E P x0 x4 h=>
vLoop (g1_ W R N E P) [x0,x4] h
def n31:N1:=fun W R N E P x0 h=>
n30 W R N E P x0 (.sc (.int .i64 0)) h
def n32:N1:=fun W R N E P x0 h=>
n31 W R N E P x0 h
theorem callsN{x0:AV}{h:AH}{M:WK}{R:RK}(hp:n32 (fun id=>M id\/h.next<=id) (retV Try.prog [.tmp 2,.tmp 3] R) (retV Try.prog [.tmp 2,.tmp 3] R) (fun _ _ _=>False) (fun v h=>R (.pan v) h) x0 h):ACalls Try.prog 14 [x0] h M R:=
 fin (n:=94) (pl:=[(7,⟨[(none,(fr 0 4)),(some (3,false),(fr 4 3)),(none,(fr 7 1))],false,[],[]⟩)]) (rs:=[.tmp 2,.tmp 3]) (L:=rs) (fun c=>(a1 n32 0 c)) Try.mixed Try.func14 (fun c=>
(sq (a1 n32 0 c)
(sn
(sl (a0 n1 c))
(sq (a1 n31 0 c)
(bk 0 (lp [0,4] rs [(0,[])] (a2 n30 0 4 c) g1_ (fun i vs h=>if i=0 then n1 c.W c.R c.N c.E c.P h else c.E i vs h) (.b (.t .o)) fun c=>
(sn
(sn
(sm (a2 n2 0 4 c))
(bk 1 (sq (a2 n27 0 4 c)
(sn
(sn
(sq (a3 n19 0 4 5 c)
(sq (a4 n18 0 4 5 6 c)
(sn
(sq (a5 n11 0 4 5 6 7 c)
(sn
(sl (a3 n3 0 6 7 c))
(sq (a5 n10 0 4 6 7 9 c)
(bk 4 (lp [0,4,6,7,9,10] rs [(4,[0,6,7]),(1,[0,4]),(0,[])] (a6 n9 0 4 6 7 9 10 c) g2_ (fun i vs h=>if i=4 then n3 c.W c.R c.N c.E c.P (vs.getD 0 noA) (vs.getD 1 noA) (vs.getD 2 noA) h else if i=1 then n2 c.W c.R c.N c.E c.P (vs.getD 0 noA) (vs.getD 1 noA) h else c.E i vs h) (.b (.t (.b (.t .o)))) fun c=>
(sn
(sn
(sm (a6 n4 0 4 6 7 9 10 c))
(bk 5 (sq (a6 n6 0 4 6 7 9 10 c)
(cd (a7 n5 0 4 6 7 9 10 79 c) tr tr))))
(sq (a6 n8 0 4 6 7 9 10 c)
(cd (a7 n7 0 4 6 7 9 10 68 c) tr tr))))))))
(sq (a5 n17 0 4 5 6 7 c)
(bk 2 (lp [0,4,5,6,7,8] rs [(2,[0,4,5,6,7]),(1,[0,4]),(0,[])] (a6 n16 0 4 5 6 7 8 c) g3_ (fun i vs h=>if i=2 then n11 c.W c.R c.N c.E c.P (vs.getD 0 noA) (vs.getD 1 noA) (vs.getD 2 noA) (vs.getD 3 noA) (vs.getD 4 noA) h else if i=1 then n2 c.W c.R c.N c.E c.P (vs.getD 0 noA) (vs.getD 1 noA) h else c.E i vs h) (.b (.t (.b (.t .o)))) fun c=>
(sn
(sn
(sm (a6 n12 0 4 5 6 7 8 c))
(bk 3 (sm (a6 n13 0 4 5 6 7 8 c))))
(sq (a6 n15 0 4 5 6 7 8 c)
(cd (a7 n14 0 4 5 6 7 8 49 c) tr tr)))))))))
(sn
(cd (a4 n20 0 4 5 35 c) tr tr)
(gr (gn (a3 n23 0 4 5 c) (gx (a4 n22 0 4 5 31 c) (gl (a5 n21 0 4 5 31 34 c)))))))
(sq (a3 n26 0 4 5 c)
(cd (a4 n25 0 4 5 23 c) (sl (a3 n24 0 4 5 c)) tr))))))
(sq (a2 n29 0 4 c)
(cd (a3 n28 0 4 14 c) tr tr))))))))) hp
attribute [simp] n1 n2 n3 n4 n5 n6 n7 n8 n10 n11 n12 n13 n14 n15 n17 n18 n19 n20 n21 n22 n23 n24 n25 n26 n27 n28 n29 n31 n32
end F14
end
end Go.Proofs.Ytjehibknlmehmaa
