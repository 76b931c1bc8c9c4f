/- Bodies of the law; printed. No condition. -/
import Derived.Test.YtbdibjgoeeokoaaGl
set_option maxRecDepth 100000
namespace Go.Proofs.Ytbdibjgoeeokoaa
open Go.Ab
namespace F4
abbrev rs:List Nat:=[2]
def n1:N1:=fun _ R _ _ _ x2 h=>
R [x2] h
def n2:N2:=fun W R N E P x102 x105 h=>
pPick x102 x105 (.sc (.bool false)) fun t1=>
n1 W R N E P t1 h
def n3:N3:=fun W R N E P x8 x13 x102 h=>
aIg true x102 (
lLd (some true) (some 3) x13 h fun t2 _=>
lLd (some true) (some 3) x8 h fun t4 _=>
aCall Try.prog W 11 [t2,t4] h (fun t6 h7=>
n2 W R N E P x102 t6 h7) P) (
n2 W R N E P x102 noA h)
def n4:N4:=fun W R N E P x8 x13 x97 x100 h=>
pPick x97 x100 (.sc (.bool false)) fun t8=>
n3 W R N E P x8 x13 t8 h
def n5:N4:=fun W R N E P x8 x10 x13 x97 h=>
aIg true x97 (
lLd (some true) (some 3) x10 h fun t9 _=>
lLd (some true) (some 3) x8 h fun t11 _=>
aCall Try.prog W 11 [t9,t11] h (fun t13 h14=>
n4 W R N E P x8 x13 x97 t13 h14) P) (
n4 W R N E P x8 x13 x97 noA h)
def n6:N5:=fun W R N E P x8 x10 x13 x93 x95 h=>
pPick x93 x95 (.sc (.bool false)) fun t15=>
n5 W R N E P x8 x10 x13 t15 h
def n7:N5:=fun W R N E P x8 x10 x11 x13 x93 h=>
aIg true x93 (
pUn .not x11 fun t16=>
n6 W R N E P x8 x10 x13 x93 t16 h) (
n6 W R N E P x8 x10 x13 x93 noA h)
def n8:N6:=fun W R N E P x8 x10 x11 x13 x89 x91 h=>
pPick x89 x91 (.sc (.bool false)) fun t17=>
n7 W R N E P x8 x10 x11 x13 t17 h
def n9:N6:=fun W R N E P x8 x10 x11 x13 x14 x89 h=>
aIg true x89 (
pBin Try.prog .eql 30 true x14 (.sc (.int .i64 0)) fun t18=>
n8 W R N E P x8 x10 x11 x13 x89 t18 h) (
n8 W R N E P x8 x10 x11 x13 x89 noA h)
def n10:N6:=fun W R N E P x8 x10 x11 x12 x13 x14 h=>
pBin Try.prog .eql 30 true x12 (.sc (.int .i64 0)) fun t19=>
n9 W R N E P x8 x10 x11 x13 x14 t19 h
def n11:N4:=fun W R N E P x8 x10 x11 x12 h=>
lLd (some true) (some 3) x8 h fun t20 _=>
aCall Try.prog W 15 [t20] h (fun t22 h23=>
pExt t22 0 fun t24=>
pExt t22 1 fun t25=>
eAlloc (some [.int .i64 0,.int .i64 0,.slice none 0 0]) 3 24 h23 fun t26 h27=>
eStore (some 3) t26 t24 h27 W fun h28=>
n10 W R N E P x8 x10 x11 x12 t26 t25 h28) P
def n12:N1:=fun W R N E P x8 h=>
lLd (some true) (some 3) x8 h fun t29 _=>
aCall Try.prog W 10 [t29] h (fun t31 h32=>
pExt t31 0 fun t33=>
pExt t31 1 fun t34=>
pExt t31 2 fun t35=>
eAlloc (some [.int .i64 0,.int .i64 0,.slice none 0 0]) 3 24 h32 fun t36 h37=>
eStore (some 3) t36 t33 h37 W fun h38=>
n11 W R N E P x8 t36 t34 t35 h38) P
def n13:N0:=fun _ R _ _ _ h=>
R [(.sc (.bool true))] h
def n14:N2:=fun W R N E P x8 x75 h=>
aIf x75 (
n13 W R N E P h) (
n12 W R N E P x8 h)
def n15:N2:=fun W R N E P x7 x8 h=>
pBin Try.prog .neq 30 true x7 (.sc (.int .i64 0)) fun t39=>
n14 W R N E P x8 t39 h
def n16:N0:=fun _ R _ _ _ h=>
R [(.sc (.bool false))] h
def n17:N3:=fun W R N E P x7 x8 x73 h=>
aIf x73 (
n16 W R N E P h) (
n15 W R N E P x7 x8 h)
def n18:N4:=fun W R N E P x7 x8 x68 x72 h=>
pPick x68 (.sc (.bool true)) x72 fun t40=>
n17 W R N E P x7 x8 t40 h
def n19:N5:=fun W R N E P x1 x3 x7 x8 x68 h=>
aIg false x68 (
lLd (some true) (some 3) x3 h fun t41 _=>
lLd (some true) (some 3) x1 h fun t43 _=>
aCall Try.prog W 12 [t41,t43] h (fun t45 h46=>
pUn .not t45 fun t47=>
n18 W R N E P x7 x8 x68 t47 h46) P) (
n18 W R N E P x7 x8 x68 noA h)
def n20:N5:=fun W R N E P x1 x3 x4 x7 x8 h=>
lLd (some true) (some 3) x8 h fun t48 _=>
lLd (some true) (some 3) x4 h fun t50 _=>
aCall Try.prog W 11 [t48,t50] h (fun t52 h53=>
pUn .not t52 fun t54=>
n19 W R N E P x1 x3 x7 x8 t54 h53) P
def n21:N6:=fun W R N E P x1 x3 x4 x6 x7 x8 h=>
lLd (some true) (some 3) x6 h fun t55 _=>
aCall Try.prog W 13 [t55] h (fun t57 h58=>
n20 W R N E P x1 x3 x4 x7 x8 h58) P
def n22:N0:=fun _ R _ _ _ h=>
R [(.sc (.bool false))] h
def n23:N7:=fun W R N E P x1 x3 x4 x6 x7 x8 x61 h=>
aIf x61 (
n22 W R N E P h) (
n21 W R N E P x1 x3 x4 x6 x7 x8 h)
def n24:N8:=fun W R N E P x1 x3 x4 x6 x7 x8 x56 x60 h=>
pPick x56 (.sc (.bool true)) x60 fun t59=>
n23 W R N E P x1 x3 x4 x6 x7 x8 t59 h
def n25:N7:=fun W R N E P x1 x3 x4 x6 x7 x8 x56 h=>
aIg false x56 (
lLd (some true) (some 3) x3 h fun t60 _=>
lLd (some true) (some 3) x1 h fun t62 _=>
aCall Try.prog W 12 [t60,t62] h (fun t64 h65=>
pUn .not t64 fun t66=>
n24 W R N E P x1 x3 x4 x6 x7 x8 x56 t66 h65) P) (
n24 W R N E P x1 x3 x4 x6 x7 x8 x56 noA h)
def n26:N8:=fun W R N E P x1 x3 x4 x6 x7 x8 x51 x54 h=>
pPick x51 (.sc (.bool true)) x54 fun t67=>
n25 W R N E P x1 x3 x4 x6 x7 x8 t67 h
def n27:N9:=fun W R N E P x1 x3 x4 x5 x6 x7 x8 x9 x51 h=>
aIg false x51 (
pBin Try.prog .neq 3 false x9 x5 fun t68=>
n26 W R N E P x1 x3 x4 x6 x7 x8 x51 t68 h) (
n26 W R N E P x1 x3 x4 x6 x7 x8 x51 noA h)
def n28:N10:=fun W R N E P x1 x3 x4 x5 x6 x7 x8 x9 x46 x49 h=>
pPick x46 (.sc (.bool true)) x49 fun t69=>
n27 W R N E P x1 x3 x4 x5 x6 x7 x8 x9 t69 h
def n29:N9:=fun W R N E P x1 x3 x4 x5 x6 x7 x8 x9 x46 h=>
aIg false x46 (
pBin Try.prog .neq 3 false x7 x5 fun t70=>
n28 W R N E P x1 x3 x4 x5 x6 x7 x8 x9 x46 t70 h) (
n28 W R N E P x1 x3 x4 x5 x6 x7 x8 x9 x46 noA h)
def n30:N10:=fun W R N E P x1 x3 x4 x5 x6 x7 x8 x9 x40 x44 h=>
pPick x40 (.sc (.bool true)) x44 fun t71=>
n29 W R N E P x1 x3 x4 x5 x6 x7 x8 x9 t71 h
def n31:N9:=fun W R N E P x1 x3 x4 x5 x6 x7 x8 x9 x40 h=>
aIg false x40 (
lLd (some true) (some 3) x8 h fun t72 _=>
lLd (some true) (some 3) x4 h fun t74 _=>
aCall Try.prog W 11 [t72,t74] h (fun t76 h77=>
pUn .not t76 fun t78=>
n30 W R N E P x1 x3 x4 x5 x6 x7 x8 x9 x40 t78 h77) P) (
n30 W R N E P x1 x3 x4 x5 x6 x7 x8 x9 x40 noA h)
def n32:N8:=fun W R N E P x1 x3 x4 x5 x6 x7 x8 x9 h=>
lLd (some true) (some 3) x6 h fun t79 _=>
lLd (some true) (some 3) x4 h fun t81 _=>
aCall Try.prog W 11 [t79,t81] h (fun t83 h84=>
pUn .not t83 fun t85=>
n31 W R N E P x1 x3 x4 x5 x6 x7 x8 x9 t85 h84) P
def n33:N6:=fun W R N E P x1 x3 x4 x5 x6 x7 h=>
lLd (some true) (some 3) x3 h fun t86 _=>
aCall Try.prog W 15 [t86] h (fun t88 h89=>
pExt t88 0 fun t90=>
pExt t88 1 fun t91=>
eAlloc (some [.int .i64 0,.int .i64 0,.slice none 0 0]) 3 24 h89 fun t92 h93=>
eStore (some 3) t92 t90 h93 W fun h94=>
n32 W R N E P x1 x3 x4 x5 x6 x7 t92 t91 h94) P
def n34:N4:=fun W R N E P x1 x3 x4 x5 h=>
lLd (some true) (some 3) x3 h fun t95 _=>
aCall Try.prog W 15 [t95] h (fun t97 h98=>
pExt t97 0 fun t99=>
pExt t97 1 fun t100=>
eAlloc (some [.int .i64 0,.int .i64 0,.slice none 0 0]) 3 24 h98 fun t101 h102=>
eStore (some 3) t101 t99 h102 W fun h103=>
n33 W R N E P x1 x3 x4 x5 t101 t100 h103) P
def n35:N2:=fun W R N E P x1 x3 h=>
lLd (some true) (some 3) x1 h fun t104 _=>
aCall Try.prog W 14 [t104] h (fun t106 h107=>
pExt t106 0 fun t108=>
pExt t106 1 fun t109=>
eAlloc (some [.int .i64 0,.int .i64 0,.slice none 0 0]) 3 24 h107 fun t110 h111=>
eStore (some 3) t110 t108 h111 W fun h112=>
n34 W R N E P x1 x3 t110 t109 h112) P
def n36:N1:=fun W R N E P x1 h=>
lLd (some true) (some 3) x1 h fun t113 _=>
aCall Try.prog W 8 [t113] h (fun t115 h116=>
eAlloc (some [.int .i64 0,.int .i64 0,.slice none 0 0]) 3 24 h116 fun t117 h118=>
eStore (some 3) t117 t115 h118 W fun h119=>
n35 W R N E P x1 t117 h119) P
def n37:N0:=fun _ R _ _ _ h=>
R [(.sc (.bool true))] h
def n38:N2:=fun W R N E P x1 x18 h=>
aIf x18 (
n37 W R N E P h) (
n36 W R N E P x1 h)
def n39:N1:=fun W R N E P x1 h=>
lLd (some true) (some 3) x1 h fun t120 _=>
aCall Try.prog W 7 [t120] h (fun t122 h123=>
n38 W R N E P x1 t122 h123) P
def n40:N0:=fun _ R _ _ _ h=>
R [(.sc (.bool false))] h
def n41:N2:=fun W R N E P x1 x16 h=>
aIf x16 (
n40 W R N E P h) (
n39 W R N E P x1 h)
def n42:N1:=fun W R N E P x1 h=>
aCall Try.prog W 6 [] h (fun t124 h125=>
pUn .not t124 fun t126=>
n41 W R N E P x1 t126 h125) P
def n43:N1:=fun W R N E P x0 h=>
eBox 3 24 x0 h fun t127 h128=>
n42 W R N E P t127 h128
theorem callsN{x0:AV}{h:AH}{M:WK}{R:RK}(hp:n43 (fun id=>M id\/h.next<=id) (retV Try.prog [.tmp 2] R) (retV Try.prog [.tmp 2] R) (fun _ _ _=>False) (fun v h=>R (.pan v) h) x0 h):ACalls Try.prog 4 [x0] h M R:=
 fin (n:=107) (pl:=[(9,⟨[(none,(fr 0 5)),(some (4,false),(fr 5 4)),(none,(fr 9 2)),(some (10,false),(fr 11 3)),(none,(fr 14 2)),(some (15,false),(fr 16 3)),(none,(fr 19 2)),(some (20,false),(fr 21 4)),(none,(fr 25 1))],false,[],[]⟩),(12,⟨[(none,(fr 0 5)),(some (4,false),(fr 5 4)),(none,(fr 9 1))],false,[],[]⟩),(18,⟨[(none,(fr 0 3)),(some (2,true),(fr 3 2)),(none,(fr 5 2)),(some (6,true),(fr 7 2)),(none,(fr 9 2)),(some (10,true),(fr 11 3)),(none,(fr 14 2)),(some (15,true),(fr 16 3)),(none,(fr 19 2))],false,[],[]⟩)]) (rs:=[.tmp 2]) (L:=rs) (fun c=>(a1 n43 0 c)) Try.mixed Try.func4 (fun c=>
(sq (a1 n43 0 c)
(sn
(sn
(sq (a1 n36 1 c)
(sq (a2 n35 1 3 c)
(sq (a4 n34 1 3 4 5 c)
(sq (a6 n33 1 3 4 5 6 7 c)
(sn
(sq (a6 n21 1 3 4 6 7 8 c)
(sn
(sn
(sq (a1 n12 8 c)
(sq (a4 n11 8 10 11 12 c)
(sn
(sm (a1 n1 2 c))
(gr (gn (a6 n10 8 10 11 12 13 14 c) (gx (a6 n9 8 10 11 13 14 89 c) (gn (a6 n8 8 10 11 13 89 91 c) (gx (a5 n7 8 10 11 13 93 c) (gn (a5 n6 8 10 13 93 95 c) (gx (a4 n5 8 10 13 97 c) (gn (a4 n4 8 13 97 100 c) (gx (a3 n3 8 13 102 c) (gl (a2 n2 102 105 c))))))))))))))
(sq (a2 n15 7 8 c)
(cd (a2 n14 8 75 c) (sl (a0 n13 c)) tr)))
(sn
(cd (a3 n17 7 8 73 c) (sl (a0 n16 c)) tr)
(gr (gn (a5 n20 1 3 4 7 8 c) (gx (a5 n19 1 3 7 8 68 c) (gl (a4 n18 7 8 68 72 c))))))))
(sn
(cd (a7 n23 1 3 4 6 7 8 61 c) (sl (a0 n22 c)) tr)
(gr (gn (a8 n32 1 3 4 5 6 7 8 9 c) (gx (a9 n31 1 3 4 5 6 7 8 9 40 c) (gn (a10 n30 1 3 4 5 6 7 8 9 40 44 c) (gx (a9 n29 1 3 4 5 6 7 8 9 46 c) (gn (a10 n28 1 3 4 5 6 7 8 9 46 49 c) (gx (a9 n27 1 3 4 5 6 7 8 9 51 c) (gn (a8 n26 1 3 4 6 7 8 51 54 c) (gx (a7 n25 1 3 4 6 7 8 56 c) (gl (a8 n24 1 3 4 6 7 8 56 60 c)))))))))))))))))
(sq (a1 n39 1 c)
(cd (a2 n38 1 18 c) (sl (a0 n37 c)) tr)))
(sq (a1 n42 1 c)
(cd (a2 n41 1 16 c) (sl (a0 n40 c)) tr))))) hp
attribute [simp] n1 n2 n3 n4 n5 n6 n7 n8 n9 n10 n11 n12 n13 n14 n15 n16 n17 n18 n19 n20 n21 n22 n23 n24 n25 n26 n27 n28 n29 n30 n31 n32 n33 n34 n35 n36 n37 n38 n39 n40 n41 n42 n43
end F4
namespace F6
abbrev rs:List Nat:=[0]
def n1:N1:=fun _ R _ _ _ x0 h=>
R [x0] h
def n2:N2:=fun W R N E P x46 x50 h=>
pPick x46 x50 (.sc (.bool false)) fun t1=>
n1 W R N E P t1 h
def n3:N2:=fun W R N E P x4 x46 h=>
aIg true x46 (
pFld (some 2) x4 fun t2=>
lLd (some false) (some 1) t2 h fun t3 _=>
(strArg t3=false)/\pLen t3 fun t5=>
pBin Try.prog .eql 3 true t5 (.sc (.int .i64 1)) fun t6=>
n2 W R N E P x46 t6 h) (
n2 W R N E P x46 noA h)
def n4:N3:=fun W R N E P x4 x41 x44 h=>
pPick x41 x44 (.sc (.bool false)) fun t7=>
n3 W R N E P x4 t7 h
def n5:N3:=fun W R N E P x2 x4 x41 h=>
aIg true x41 (
pFld (some 0) x2 fun t8=>
lLd (some false) (some 1) t8 h fun t9 _=>
pBin Try.prog .eql 3 true t9 (.sc (.int .i64 1)) fun t11=>
n4 W R N E P x4 x41 t11 h) (
n4 W R N E P x4 x41 noA h)
def n6:N4:=fun W R N E P x2 x4 x35 x39 h=>
pPick x35 x39 (.sc (.bool false)) fun t12=>
n5 W R N E P x2 x4 t12 h
def n7:N3:=fun W R N E P x2 x4 x35 h=>
aIg true x35 (
pFld (some 2) x2 fun t13=>
lLd (some false) (some 1) t13 h fun t14 _=>
(strArg t14=false)/\pLen t14 fun t16=>
pBin Try.prog .eql 3 true t16 (.sc (.int .i64 0)) fun t17=>
n6 W R N E P x2 x4 x35 t17 h) (
n6 W R N E P x2 x4 x35 noA h)
def n8:N4:=fun W R N E P x2 x4 x31 x33 h=>
pPick x31 x33 (.sc (.bool false)) fun t18=>
n7 W R N E P x2 x4 t18 h
def n9:N4:=fun W R N E P x2 x4 x5 x31 h=>
aIg true x31 (
pUn .not x5 fun t19=>
n8 W R N E P x2 x4 x31 t19 h) (
n8 W R N E P x2 x4 x31 noA h)
def n10:N5:=fun W R N E P x2 x4 x5 x27 x29 h=>
pPick x27 x29 (.sc (.bool false)) fun t20=>
n9 W R N E P x2 x4 x5 t20 h
def n11:N5:=fun W R N E P x2 x4 x5 x6 x27 h=>
aIg true x27 (
pBin Try.prog .eql 30 true x6 (.sc (.int .i64 0)) fun t21=>
n10 W R N E P x2 x4 x5 x27 t21 h) (
n10 W R N E P x2 x4 x5 x27 noA h)
def n12:N5:=fun W R N E P x2 x3 x4 x5 x6 h=>
pBin Try.prog .eql 30 true x3 (.sc (.int .i64 0)) fun t22=>
n11 W R N E P x2 x4 x5 x6 t22 h
def n13:N3:=fun W R N E P x1 x2 x3 h=>
lLd (some true) (some 7) x1 h fun t23 _=>
eBSl (some (7,45,[.int .i64 0,.string ⟨#[]⟩,.slice none 0 0,.int .i64 0,.bool false,.int .u64 0,.int .u64 0])) 1 [(0,t23)] h fun t25 h26=>
pBld (some ([.int .i64 0,.int .i64 0,.slice none 0 0],.inl [(0,1),(1,1),(2,1)])) [(0,(.sc (.int .i64 1))),(2,t25)] fun t27=>
aCall Try.prog W 10 [t27] h26 (fun t28 h29=>
pExt t28 0 fun t30=>
pExt t28 1 fun t31=>
pExt t28 2 fun t32=>
eAlloc (some [.int .i64 0,.int .i64 0,.slice none 0 0]) 3 24 h29 fun t33 h34=>
eStore (some 3) t33 t30 h34 W fun h35=>
n12 W R N E P x2 x3 t33 t31 t32 h35) P
def n14:N1:=fun W R N E P x1 h=>
lLd (some true) (some 7) x1 h fun t36 _=>
lLd (some true) (some 7) x1 h fun t38 _=>
eBSl (some (7,45,[.int .i64 0,.string ⟨#[]⟩,.slice none 0 0,.int .i64 0,.bool false,.int .u64 0,.int .u64 0,.int .i64 0,.string ⟨#[]⟩,.slice none 0 0,.int .i64 0,.bool false,.int .u64 0,.int .u64 0])) 2 [(0,t36),(1,t38)] h fun t40 h41=>
pBld (some ([.int .i64 0,.int .i64 0,.slice none 0 0],.inl [(0,1),(1,1),(2,1)])) [(0,(.sc (.int .i64 1))),(2,t40)] fun t42=>
aCall Try.prog W 15 [t42] h41 (fun t43 h44=>
pExt t43 0 fun t45=>
pExt t43 1 fun t46=>
eAlloc (some [.int .i64 0,.int .i64 0,.slice none 0 0]) 3 24 h44 fun t47 h48=>
eStore (some 3) t47 t45 h48 W fun h49=>
n13 W R N E P x1 t47 t46 h49) P
def n15:N0:=fun W R N E P h=>
eBSl (some (1,3,[.int .i64 0])) 1 [(0,(.sc (.int .i64 0)))] h fun t50 h51=>
pBld (some ([.int .i64 0,.string ⟨#[]⟩,.slice none 0 0,.int .i64 0,.bool false,.int .u64 0,.int .u64 0],.inl [(0,1),(1,1),(2,1),(3,1),(4,1),(5,1),(6,1)])) [(0,(.sc (.int .i64 1))),(1,(.sc (.string ⟨#[104]⟩))),(2,t50)] fun t52=>
eAlloc (some [.int .i64 0,.string ⟨#[]⟩,.slice none 0 0,.int .i64 0,.bool false,.int .u64 0,.int .u64 0]) 7 45 h51 fun t53 h54=>
eStore (some 7) t53 t52 h54 W fun h55=>
n14 W R N E P t53 h55
def n16:N0:=fun W R N E P h=>
n15 W R N E P h
theorem callsN{h:AH}{M:WK}{R:RK}(hp:n16 (fun id=>M id\/h.next<=id) (retV Try.prog [.tmp 0] R) (retV Try.prog [.tmp 0] R) (fun _ _ _=>False) (fun v h=>R (.pan v) h) h):ACalls Try.prog 6 [] h M R:=
 fin (n:=52) (pl:=[(4,⟨[(none,(fr 0 3)),(some (2,true),(fr 3 2)),(none,(fr 5 2)),(some (6,true),(fr 7 2)),(none,(fr 9 2)),(some (10,true),(fr 11 4)),(none,(fr 15 2)),(some (16,true),(fr 17 3)),(none,(fr 20 2)),(some (21,true),(fr 22 4)),(none,(fr 26 2))],false,[],[]⟩)]) (rs:=[.tmp 0]) (L:=rs) (fun c=>(a0 n16 c)) Try.mixed Try.func6 (fun c=>
(sq (a0 n16 c)
(sq (a0 n15 c)
(sq (a1 n14 1 c)
(sq (a3 n13 1 2 3 c)
(sn
(sm (a1 n1 0 c))
(gr (gn (a5 n12 2 3 4 5 6 c) (gx (a5 n11 2 4 5 6 27 c) (gn (a5 n10 2 4 5 27 29 c) (gx (a4 n9 2 4 5 31 c) (gn (a4 n8 2 4 31 33 c) (gx (a3 n7 2 4 35 c) (gn (a4 n6 2 4 35 39 c) (gx (a3 n5 2 4 41 c) (gn (a3 n4 4 41 44 c) (gx (a2 n3 4 46 c) (gl (a2 n2 46 50 c))))))))))))))))))) hp
attribute [simp] n1 n2 n3 n4 n5 n6 n7 n8 n9 n10 n11 n12 n13 n14 n15 n16
end F6
namespace F7
abbrev rs:List Nat:=[2]
def n1:N0:=fun _ R _ _ _ h=>
R [(.sc (.bool false))] h
def n2:N3:=fun _ _ N _ _ x10 x11 x12 h=>
pBin Try.prog .add 3 true x12 (.sc (.int .i64 1)) fun t1=>
N [x10,x11,t1] h
def n3:N0:=fun _ R _ _ _ h=>
R [(.sc (.bool true))] h
def n4:N4:=fun W R N E P x10 x11 x12 x19 h=>
aIf x19 (
n3 W R N E P h) (
n2 W R N E P x10 x11 x12 h)
def n5:N4:=fun W R N E P x4 x10 x11 x12 h=>
pFld (some 2) x4 fun t2=>
lLd (some false) (some 1) t2 h fun t3 _=>
(strArg t3=false)/\pLen t3 fun t5=>
pBin Try.prog .gtr 3 true t5 (.sc (.int .i64 80)) fun t6=>
n4 W R N E P x10 x11 x12 t6 h
def n6:N3:=fun W R N E P x10 x11 x12 h=>
pIxA (some (7,none)) x10 x12 fun t7=>
lLd (some true) (some 7) t7 h fun t8 _=>
eAlloc (some [.int .i64 0,.string ⟨#[]⟩,.slice none 0 0,.int .i64 0,.bool false,.int .u64 0,.int .u64 0]) 7 45 h fun t10 h11=>
eStore (some 7) t10 t8 h11 W fun h12=>
n5 W R N E P t10 x10 x11 x12 h12
def n7:N4:=fun W R N E P x10 x11 x12 x13 h=>
aIf x13 (
n6 W R N E P x10 x11 x12 h) (
E 0 [] h)
def n8:N3:=fun W R N E P x10 x11 x12 h=>
pBin Try.prog .lss 3 false x12 x11 fun t13=>
n7 W R N E P x10 x11 x12 t13 h
def g1_:GK:=fun W R N E P N' vs h=>n8 W R N' (fun(i:Nat) (vs:List AV) (h:AH)=>if i=0 then n1 W R N E P h else E i vs h) P (vs.getD 0 noA) (vs.getD 1 noA) (vs.getD 2 noA) h
def n9:N3:=fun W R N E P x10 x11 x12 h=>
vLoop (g1_ W R N E P) [x10,x11,x12] h
def n10:N1:=fun W R N E P x1 h=>
pFld (some 2) x1 fun t14=>
lLd (some false) (some 1) t14 h fun t15 _=>
(strArg t15=false)/\pLen t15 fun t17=>
n9 W R N E P t15 t17 (.sc (.int .i64 0)) h
def n11:N0:=fun _ R _ _ _ h=>
R [(.sc (.bool true))] h
def n12:N2:=fun W R N E P x1 x8 h=>
aIf x8 (
n11 W R N E P h) (
n10 W R N E P x1 h)
def n13:N1:=fun W R N E P x1 h=>
pFld (some 2) x1 fun t18=>
lLd (some false) (some 1) t18 h fun t19 _=>
(strArg t19=false)/\pLen t19 fun t21=>
pBin Try.prog .gtr 3 true t21 (.sc (.int .i64 80)) fun t22=>
n12 W R N E P x1 t22 h
def n14:N1:=fun W R N E P x0 h=>
eBox 3 24 x0 h fun t23 h24=>
n13 W R N E P t23 h24
theorem callsN{x0:AV}{h:AH}{M:WK}{R:RK}(hp:n14 (fun id=>M id\/h.next<=id) (retV Try.prog [.tmp 2] R) (retV Try.prog [.tmp 2] R) (fun _ _ _=>False) (fun v h=>R (.pan v) h) x0 h):ACalls Try.prog 7 [x0] h M R:=
 fin (n:=21) (pl:=[]) (rs:=[.tmp 2]) (L:=rs) (fun c=>(a1 n14 0 c)) Try.mixed Try.func7 (fun c=>
(sq (a1 n14 0 c)
(sn
(sn
(sl (a0 n1 c))
(sq (a1 n10 1 c)
(bk 0 (lp [10,11,12] rs [(0,[])] (a3 n9 10 11 12 c) g1_ (fun i vs h=>if i=0 then n1 c.W c.R c.N c.E c.P h else c.E i vs h) (.b (.t .o)) fun c=>
(sq (a3 n8 10 11 12 c)
(sn
(sn
(sm (a3 n2 10 11 12 c))
(bk 1 (sq (a3 n6 10 11 12 c)
(sq (a4 n5 4 10 11 12 c)
(cd (a4 n4 10 11 12 19 c) (sl (a0 n3 c)) tr)))))
(cd (a4 n7 10 11 12 13 c) tr tr)))))))
(sq (a1 n13 1 c)
(cd (a2 n12 1 8 c) (sl (a0 n11 c)) tr))))) hp
attribute [simp] n1 n2 n3 n4 n5 n6 n7 n8 n10 n11 n12 n13 n14
end F7
namespace F8
abbrev rs:List Nat:=[2]
def n1:N2:=fun W R _ _ _ x2 x3 h=>
lLd (some true) (some 3) x3 h fun t1 _=>
eStore (some 3) x2 t1 h W fun h3=>
R [x2] h3
def n2:N2:=fun W R N E P x2 x3 h=>
∃Hd:Nat->Nat,(∀i∈[6],h.obj (Hd i)≠none)/\(
pFld (some 2) x3 fun t4=>
lLd (some false) (some 1) t4 h fun t5 _=>
pBld (some ([.int .i64 0,.string ⟨#[]⟩,.slice none 0 0,.int .i64 0,.bool false,.int .u64 0,.int .u64 0],.inl [(0,1),(1,1),(2,1),(3,1),(4,1),(5,1),(6,1)])) [(0,(.sc (.int .i64 (-77))))] fun t7=>
pFld (some 2) x3 fun t8=>
lLd (some false) (some 1) t8 h fun t9 i10=>
(i10=Hd 6)/\(
(strArg t9=false)/\pLen t9 fun t11=>
eBSl (some (7,45,[.int .i64 0,.string ⟨#[]⟩,.slice none 0 0,.int .i64 0,.bool false,.int .u64 0,.int .u64 0])) 1 [(0,t7)] h fun t12 h13=>
eApp (some (7,80,45)) t5 t12 h13 (banL W Hd [6]) fun t14 h15=>
pSlL (some 7) t14 none (some t11) h15 fun t16=>
pFld (some 2) x3 fun t17=>
eStore (some 1) t17 t16 h15 W fun h18=>
n1 W R N E P x2 x3 h18))
def n3:N5:=fun _ _ N _ _ x2 x3 x12 x13 x14 h=>
pBin Try.prog .add 3 true x14 (.sc (.int .i64 1)) fun t19=>
N [x2,x3,x12,x13,t19] h
def n4:N6:=fun W R N E P x2 x3 x5 x12 x13 x14 h=>
pFld (some 2) x3 fun t20=>
lLd (some false) (some 1) t20 h fun t21 _=>
lLd (some true) (some 7) x5 h fun t23 _=>
eBSl (some (7,45,[.int .i64 0,.string ⟨#[]⟩,.slice none 0 0,.int .i64 0,.bool false,.int .u64 0,.int .u64 0])) 1 [(0,t23)] h fun t25 h26=>
eApp (some (7,80,45)) t21 t25 h26 W fun t27 h28=>
pFld (some 2) x3 fun t29=>
eStore (some 1) t29 t27 h28 W fun h30=>
n3 W R N E P x2 x3 x12 x13 x14 h30
def n5:N6:=fun W R N E P x2 x3 x5 x12 x13 x14 h=>
∃Hd:Nat->Nat,(∀i∈[7],h.obj (Hd i)≠none)/\(
pFld (some 2) x5 fun t31=>
lLd (some false) (some 1) t31 h fun t32 _=>
pFld (some 2) x5 fun t34=>
lLd (some false) (some 1) t34 h fun t35 i36=>
(i36=Hd 7)/\(
(strArg t35=false)/\pLen t35 fun t37=>
(
eBSl (some (1,3,[])) 0 [] h fun t38 h39=>
(
eApp (some (1,8,3)) t38 t32 h39 (banL W Hd [7]) fun t40 h41=>
eBSl (some (1,3,[.int .i64 0])) 1 [(0,(.sc (.int .i64 (-77))))] h41 fun t42 h43=>
eApp (some (1,8,3)) t40 t42 h43 (banL W Hd [7]) fun t44 h45=>
pSlL (some 1) t44 none (some t37) h45 fun t46=>
pFld (some 2) x5 fun t47=>
eStore (some 1) t47 t46 h45 W fun h48=>
n4 W R N E P x2 x3 x5 x12 x13 x14 h48)/\(
eBSl (some (1,3,[.int .i64 0])) 1 [(0,(.sc (.int .i64 (-77))))] h39 fun t49 h50=>
eApp (some (1,8,3)) t38 t32 h50 (banL W Hd [7]) fun t51 h52=>
eApp (some (1,8,3)) t51 t49 h52 (banL W Hd [7]) fun t53 h54=>
pSlL (some 1) t53 none (some t37) h54 fun t55=>
pFld (some 2) x5 fun t56=>
eStore (some 1) t56 t55 h54 W fun h57=>
n4 W R N E P x2 x3 x5 x12 x13 x14 h57)/\True)/\(
eBSl (some (1,3,[.int .i64 0])) 1 [(0,(.sc (.int .i64 (-77))))] h fun t58 h59=>
eBSl (some (1,3,[])) 0 [] h59 fun t60 h61=>
eApp (some (1,8,3)) t60 t32 h61 (banL W Hd [7]) fun t62 h63=>
eApp (some (1,8,3)) t62 t58 h63 (banL W Hd [7]) fun t64 h65=>
pSlL (some 1) t64 none (some t37) h65 fun t66=>
pFld (some 2) x5 fun t67=>
eStore (some 1) t67 t66 h65 W fun h68=>
n4 W R N E P x2 x3 x5 x12 x13 x14 h68)/\True))
def n6:N5:=fun W R N E P x2 x3 x12 x13 x14 h=>
pIxA (some (7,none)) x12 x14 fun t69=>
lLd (some true) (some 7) t69 h fun t70 _=>
eAlloc (some [.int .i64 0,.string ⟨#[]⟩,.slice none 0 0,.int .i64 0,.bool false,.int .u64 0,.int .u64 0]) 7 45 h fun t72 h73=>
eStore (some 7) t72 t70 h73 W fun h74=>
n5 W R N E P x2 x3 t72 x12 x13 x14 h74
def n7:N6:=fun W R N E P x2 x3 x12 x13 x14 x15 h=>
aIf x15 (
n6 W R N E P x2 x3 x12 x13 x14 h) (
E 0 [x2,x3] h)
def n8:N5:=fun W R N E P x2 x3 x12 x13 x14 h=>
pBin Try.prog .lss 3 false x14 x13 fun t75=>
n7 W R N E P x2 x3 x12 x13 x14 t75 h
def g1_:GK:=fun W R N E P N' vs h=>n8 W R N' (fun(i:Nat) (vs:List AV) (h:AH)=>if i=0 then n2 W R N E P (vs.getD 0 noA) (vs.getD 1 noA) h else E i vs h) P (vs.getD 0 noA) (vs.getD 1 noA) (vs.getD 2 noA) (vs.getD 3 noA) (vs.getD 4 noA) h
def n9:N5:=fun W R N E P x2 x3 x12 x13 x14 h=>
vLoop (g1_ W R N E P) [x2,x3,x12,x13,x14] h
def n10:N3:=fun W R N E P x1 x2 x3 h=>
pFld (some 2) x1 fun t76=>
lLd (some false) (some 1) t76 h fun t77 _=>
(strArg t77=false)/\pLen t77 fun t79=>
n9 W R N E P x2 x3 t77 t79 (.sc (.int .i64 0)) h
def n11:N2:=fun W R N E P x1 x2 h=>
pFld (some 0) x1 fun t80=>
lLd (some false) (some 1) t80 h fun t81 _=>
pFld (some 1) x1 fun t83=>
lLd (some false) (some 1) t83 h fun t84 _=>
pBld (some ([.int .i64 0,.int .i64 0,.slice none 0 0],.inl [(0,1),(1,1),(2,1)])) [(0,t81),(1,t84)] fun t86=>
eAlloc (some [.int .i64 0,.int .i64 0,.slice none 0 0]) 3 24 h fun t87 h88=>
eStore (some 3) t87 t86 h88 W fun h89=>
n10 W R N E P x1 x2 t87 h89
def n12:N1:=fun W R N E P x0 h=>
eBox 3 24 x0 h fun t90 h91=>
eAlloc (some [.int .i64 0,.int .i64 0,.slice none 0 0]) 3 24 h91 fun t92 h93=>
n11 W R N E P t90 t92 h93
theorem callsN{x0:AV}{h:AH}{M:WK}{R:RK}(hp:n12 (fun id=>M id\/h.next<=id) (retV Try.prog [.cell 2 24] R) (retV Try.prog [.cell 2 24] R) (fun _ _ _=>False) (fun v h=>R (.pan v) h) x0 h):ACalls Try.prog 8 [x0] h M R:=
 fin (n:=47) (pl:=[(5,⟨[(none,[(1,false),(2,false),(6,false),(7,true),(8,false)])],true,[.mk (fr 0 1) [.mk [(3,false),(4,false),(5,false),(9,false),(10,false),(11,false)] [],.mk [(4,false),(3,false),(5,false),(9,false),(10,false),(11,false)] []],.mk [(4,false),(0,false),(3,false),(5,false),(9,false),(10,false),(11,false)] []],[]⟩),(8,⟨[(none,[(0,false),(1,false),(2,false),(5,false),(6,true),(7,false),(3,false),(4,false),(8,false),(9,false),(10,false)])],true,[],[]⟩)]) (rs:=[.cell 2 24]) (L:=rs) (fun c=>(a1 n12 0 c)) Try.mixed Try.func8 (fun c=>
(sq (a1 n12 0 c)
(sq (a2 n11 1 2 c)
(sn
(sn
(sl (a2 n1 2 3 c))
(sm (a2 n2 2 3 c)))
(sq (a3 n10 1 2 3 c)
(bk 0 (lp [2,3,12,13,14] rs [(0,[2,3])] (a5 n9 2 3 12 13 14 c) g1_ (fun i vs h=>if i=0 then n2 c.W c.R c.N c.E c.P (vs.getD 0 noA) (vs.getD 1 noA) h else c.E i vs h) (.b (.t .o)) fun c=>
(sq (a5 n8 2 3 12 13 14 c)
(sn
(sn
(sm (a5 n3 2 3 12 13 14 c))
(bk 1 (sq (a5 n6 2 3 12 13 14 c)
(sn
(sm (a6 n4 2 3 5 12 13 14 c))
(sm (a6 n5 2 3 5 12 13 14 c))))))
(cd (a6 n7 2 3 12 13 14 15 c) tr tr)))))))))) hp
attribute [simp] n1 n2 n3 n4 n5 n6 n7 n8 n10 n11 n12
end F8
namespace F11
abbrev rs:List Nat:=[4]
def n1:N0:=fun _ R _ _ _ h=>
R [(.sc (.bool true))] h
def n2:N4:=fun _ _ N _ _ x3 x32 x33 x34 h=>
pBin Try.prog .add 3 true x34 (.sc (.int .i64 1)) fun t1=>
N [x3,x32,x33,t1] h
def n3:N8:=fun _ _ N _ _ x3 x7 x32 x33 x34 x94 x95 x96 h=>
pBin Try.prog .add 3 true x96 (.sc (.int .i64 1)) fun t2=>
N [x3,x7,x32,x33,x34,x94,x95,t2] h
def n4:N0:=fun _ R _ _ _ h=>
R [(.sc (.bool false))] h
def n5:N9:=fun W R N E P x3 x7 x32 x33 x34 x94 x95 x96 x107 h=>
aIf x107 (
n4 W R N E P h) (
n3 W R N E P x3 x7 x32 x33 x34 x94 x95 x96 h)
def n6:N10:=fun W R N E P x3 x7 x8 x9 x32 x33 x34 x94 x95 x96 h=>
pFld (some 2) x7 fun t3=>
lLd (some false) (some 1) t3 h fun t4 _=>
pIxA (some (1,none)) t4 x8 fun t6=>
lLd (some false) (some 1) t6 h fun t7 _=>
pBin Try.prog .neq 3 false x9 t7 fun t9=>
n5 W R N E P x3 x7 x32 x33 x34 x94 x95 x96 t9 h
def n7:N8:=fun W R N E P x3 x7 x32 x33 x34 x94 x95 x96 h=>
pIxA (some (1,none)) x94 x96 fun t10=>
lLd (some false) (some 1) t10 h fun t11 _=>
n6 W R N E P x3 x7 x96 t11 x32 x33 x34 x94 x95 x96 h
def n8:N9:=fun W R N E P x3 x7 x32 x33 x34 x94 x95 x96 x97 h=>
aIf x97 (
n7 W R N E P x3 x7 x32 x33 x34 x94 x95 x96 h) (
E 2 [x3,x32,x33,x34] h)
def n9:N8:=fun W R N E P x3 x7 x32 x33 x34 x94 x95 x96 h=>
pBin Try.prog .lss 3 false x96 x95 fun t13=>
n8 W R N E P x3 x7 x32 x33 x34 x94 x95 x96 t13 h
def g2_:GK:=fun W R N E P N' vs h=>n9 W R N' (fun(i:Nat) (vs:List AV) (h:AH)=>if i=2 then n2 W R N E P (vs.getD 0 noA) (vs.getD 1 noA) (vs.getD 2 noA) (vs.getD 3 noA) h else if i=1 then n2 W R N E P (vs.getD 0 noA) (vs.getD 1 noA) (vs.getD 2 noA) (vs.getD 3 noA) h else E i vs h) P (vs.getD 0 noA) (vs.getD 1 noA) (vs.getD 2 noA) (vs.getD 3 noA) (vs.getD 4 noA) (vs.getD 5 noA) (vs.getD 6 noA) (vs.getD 7 noA) h
def n10:N8:=fun W R N E P x3 x7 x32 x33 x34 x94 x95 x96 h=>
vLoop (g2_ W R N E P) [x3,x7,x32,x33,x34,x94,x95,x96] h
def n11:N6:=fun W R N E P x3 x6 x7 x32 x33 x34 h=>
pFld (some 2) x6 fun t14=>
lLd (some false) (some 1) t14 h fun t15 _=>
(strArg t15=false)/\pLen t15 fun t17=>
n10 W R N E P x3 x7 x32 x33 x34 t15 t17 (.sc (.int .i64 0)) h
def n12:N0:=fun _ R _ _ _ h=>
R [(.sc (.bool false))] h
def n13:N7:=fun W R N E P x3 x6 x7 x32 x33 x34 x92 h=>
aIf x92 (
n12 W R N E P h) (
n11 W R N E P x3 x6 x7 x32 x33 x34 h)
def n14:N8:=fun W R N E P x3 x6 x7 x32 x33 x34 x84 x91 h=>
pPick x84 (.sc (.bool true)) x91 fun t18=>
n13 W R N E P x3 x6 x7 x32 x33 x34 t18 h
def n15:N7:=fun W R N E P x3 x6 x7 x32 x33 x34 x84 h=>
aIg false x84 (
pFld (some 2) x6 fun t19=>
lLd (some false) (some 1) t19 h fun t20 _=>
(strArg t20=false)/\pLen t20 fun t22=>
pFld (some 2) x7 fun t23=>
lLd (some false) (some 1) t23 h fun t24 _=>
(strArg t24=false)/\pLen t24 fun t26=>
pBin Try.prog .neq 3 false t22 t26 fun t27=>
n14 W R N E P x3 x6 x7 x32 x33 x34 x84 t27 h) (
n14 W R N E P x3 x6 x7 x32 x33 x34 x84 noA h)
def n16:N8:=fun W R N E P x3 x6 x7 x32 x33 x34 x77 x82 h=>
pPick x77 (.sc (.bool true)) x82 fun t28=>
n15 W R N E P x3 x6 x7 x32 x33 x34 t28 h
def n17:N7:=fun W R N E P x3 x6 x7 x32 x33 x34 x77 h=>
aIg false x77 (
pFld (some 6) x6 fun t29=>
lLd (some false) (some 1) t29 h fun t30 _=>
pFld (some 6) x7 fun t32=>
lLd (some false) (some 1) t32 h fun t33 _=>
pBin Try.prog .neq 43 false t30 t33 fun t35=>
n16 W R N E P x3 x6 x7 x32 x33 x34 x77 t35 h) (
n16 W R N E P x3 x6 x7 x32 x33 x34 x77 noA h)
def n18:N8:=fun W R N E P x3 x6 x7 x32 x33 x34 x70 x75 h=>
pPick x70 (.sc (.bool true)) x75 fun t36=>
n17 W R N E P x3 x6 x7 x32 x33 x34 t36 h
def n19:N7:=fun W R N E P x3 x6 x7 x32 x33 x34 x70 h=>
aIg false x70 (
pFld (some 5) x6 fun t37=>
lLd (some false) (some 1) t37 h fun t38 _=>
pFld (some 5) x7 fun t40=>
lLd (some false) (some 1) t40 h fun t41 _=>
pBin Try.prog .neq 43 false t38 t41 fun t43=>
n18 W R N E P x3 x6 x7 x32 x33 x34 x70 t43 h) (
n18 W R N E P x3 x6 x7 x32 x33 x34 x70 noA h)
def n20:N8:=fun W R N E P x3 x6 x7 x32 x33 x34 x63 x68 h=>
pPick x63 (.sc (.bool true)) x68 fun t44=>
n19 W R N E P x3 x6 x7 x32 x33 x34 t44 h
def n21:N7:=fun W R N E P x3 x6 x7 x32 x33 x34 x63 h=>
aIg false x63 (
pFld (some 4) x6 fun t45=>
lLd (some false) (some 1) t45 h fun t46 _=>
pFld (some 4) x7 fun t48=>
lLd (some false) (some 1) t48 h fun t49 _=>
pBin Try.prog .neq 4 false t46 t49 fun t51=>
n20 W R N E P x3 x6 x7 x32 x33 x34 x63 t51 h) (
n20 W R N E P x3 x6 x7 x32 x33 x34 x63 noA h)
def n22:N8:=fun W R N E P x3 x6 x7 x32 x33 x34 x56 x61 h=>
pPick x56 (.sc (.bool true)) x61 fun t52=>
n21 W R N E P x3 x6 x7 x32 x33 x34 t52 h
def n23:N7:=fun W R N E P x3 x6 x7 x32 x33 x34 x56 h=>
aIg false x56 (
pFld (some 3) x6 fun t53=>
lLd (some false) (some 1) t53 h fun t54 _=>
pFld (some 3) x7 fun t56=>
lLd (some false) (some 1) t56 h fun t57 _=>
pBin Try.prog .neq 3 false t54 t57 fun t59=>
n22 W R N E P x3 x6 x7 x32 x33 x34 x56 t59 h) (
n22 W R N E P x3 x6 x7 x32 x33 x34 x56 noA h)
def n24:N8:=fun W R N E P x3 x6 x7 x32 x33 x34 x49 x54 h=>
pPick x49 (.sc (.bool true)) x54 fun t60=>
n23 W R N E P x3 x6 x7 x32 x33 x34 t60 h
def n25:N7:=fun W R N E P x3 x6 x7 x32 x33 x34 x49 h=>
aIg false x49 (
pFld (some 1) x6 fun t61=>
lLd (some false) (some 1) t61 h fun t62 _=>
pFld (some 1) x7 fun t64=>
lLd (some false) (some 1) t64 h fun t65 _=>
pBin Try.prog .neq 9 false t62 t65 fun t67=>
n24 W R N E P x3 x6 x7 x32 x33 x34 x49 t67 h) (
n24 W R N E P x3 x6 x7 x32 x33 x34 x49 noA h)
def n26:N6:=fun W R N E P x3 x6 x7 x32 x33 x34 h=>
pFld (some 0) x6 fun t68=>
lLd (some false) (some 1) t68 h fun t69 _=>
pFld (some 0) x7 fun t71=>
lLd (some false) (some 1) t71 h fun t72 _=>
pBin Try.prog .neq 3 false t69 t72 fun t74=>
n25 W R N E P x3 x6 x7 x32 x33 x34 t74 h
def n27:N6:=fun W R N E P x3 x5 x6 x32 x33 x34 h=>
pFld (some 2) x3 fun t75=>
lLd (some false) (some 1) t75 h fun t76 _=>
pIxA (some (7,none)) t76 x5 fun t78=>
lLd (some true) (some 7) t78 h fun t79 _=>
eAlloc (some [.int .i64 0,.string ⟨#[]⟩,.slice none 0 0,.int .i64 0,.bool false,.int .u64 0,.int .u64 0]) 7 45 h fun t81 h82=>
eStore (some 7) t81 t79 h82 W fun h83=>
n26 W R N E P x3 x6 t81 x32 x33 x34 h83
def n28:N4:=fun W R N E P x3 x32 x33 x34 h=>
pIxA (some (7,none)) x32 x34 fun t84=>
lLd (some true) (some 7) t84 h fun t85 _=>
eAlloc (some [.int .i64 0,.string ⟨#[]⟩,.slice none 0 0,.int .i64 0,.bool false,.int .u64 0,.int .u64 0]) 7 45 h fun t87 h88=>
eStore (some 7) t87 t85 h88 W fun h89=>
n27 W R N E P x3 x34 t87 x32 x33 x34 h89
def n29:N5:=fun W R N E P x3 x32 x33 x34 x35 h=>
aIf x35 (
n28 W R N E P x3 x32 x33 x34 h) (
E 0 [] h)
def n30:N4:=fun W R N E P x3 x32 x33 x34 h=>
pBin Try.prog .lss 3 false x34 x33 fun t90=>
n29 W R N E P x3 x32 x33 x34 t90 h
def g1_:GK:=fun W R N E P N' vs h=>n30 W R N' (fun(i:Nat) (vs:List AV) (h:AH)=>if i=0 then n1 W R N E P h else E i vs h) P (vs.getD 0 noA) (vs.getD 1 noA) (vs.getD 2 noA) (vs.getD 3 noA) h
def n31:N4:=fun W R N E P x3 x32 x33 x34 h=>
vLoop (g1_ W R N E P) [x3,x32,x33,x34] h
def n32:N2:=fun W R N E P x2 x3 h=>
pFld (some 2) x2 fun t91=>
lLd (some false) (some 1) t91 h fun t92 _=>
(strArg t92=false)/\pLen t92 fun t94=>
n31 W R N E P x3 t92 t94 (.sc (.int .i64 0)) h
def n33:N0:=fun _ R _ _ _ h=>
R [(.sc (.bool false))] h
def n34:N3:=fun W R N E P x2 x3 x30 h=>
aIf x30 (
n33 W R N E P h) (
n32 W R N E P x2 x3 h)
def n35:N4:=fun W R N E P x2 x3 x22 x29 h=>
pPick x22 (.sc (.bool true)) x29 fun t95=>
n34 W R N E P x2 x3 t95 h
def n36:N3:=fun W R N E P x2 x3 x22 h=>
aIg false x22 (
pFld (some 2) x2 fun t96=>
lLd (some false) (some 1) t96 h fun t97 _=>
(strArg t97=false)/\pLen t97 fun t99=>
pFld (some 2) x3 fun t100=>
lLd (some false) (some 1) t100 h fun t101 _=>
(strArg t101=false)/\pLen t101 fun t103=>
pBin Try.prog .neq 3 false t99 t103 fun t104=>
n35 W R N E P x2 x3 x22 t104 h) (
n35 W R N E P x2 x3 x22 noA h)
def n37:N4:=fun W R N E P x2 x3 x15 x20 h=>
pPick x15 (.sc (.bool true)) x20 fun t105=>
n36 W R N E P x2 x3 t105 h
def n38:N3:=fun W R N E P x2 x3 x15 h=>
aIg false x15 (
pFld (some 1) x2 fun t106=>
lLd (some false) (some 1) t106 h fun t107 _=>
pFld (some 1) x3 fun t109=>
lLd (some false) (some 1) t109 h fun t110 _=>
pBin Try.prog .neq 3 false t107 t110 fun t112=>
n37 W R N E P x2 x3 x15 t112 h) (
n37 W R N E P x2 x3 x15 noA h)
def n39:N2:=fun W R N E P x2 x3 h=>
pFld (some 0) x2 fun t113=>
lLd (some false) (some 1) t113 h fun t114 _=>
pFld (some 0) x3 fun t116=>
lLd (some false) (some 1) t116 h fun t117 _=>
pBin Try.prog .neq 3 false t114 t117 fun t119=>
n38 W R N E P x2 x3 t119 h
def n40:N2:=fun W R N E P x0 x1 h=>
eBox 3 24 x0 h fun t120 h121=>
eBox 3 24 x1 h121 fun t122 h123=>
n39 W R N E P t120 t122 h123
theorem callsN{x0 x1:AV}{h:AH}{M:WK}{R:RK}(hp:n40 (fun id=>M id\/h.next<=id) (retV Try.prog [.tmp 4] R) (retV Try.prog [.tmp 4] R) (fun _ _ _=>False) (fun v h=>R (.pan v) h) x0 x1 h):ACalls Try.prog 11 [x0,x1] h M R:=
 fin (n:=110) (pl:=[(1,⟨[(none,(fr 0 6)),(some (5,false),(fr 6 5)),(none,(fr 11 2)),(some (12,false),(fr 13 7)),(none,(fr 20 1))],false,[],[]⟩),(7,⟨[(none,(fr 0 6)),(some (5,false),(fr 6 5)),(none,(fr 11 2)),(some (12,false),(fr 13 5)),(none,(fr 18 2)),(some (19,false),(fr 20 5)),(none,(fr 25 2)),(some (26,false),(fr 27 5)),(none,(fr 32 2)),(some (33,false),(fr 34 5)),(none,(fr 39 2)),(some (40,false),(fr 41 7)),(none,(fr 48 1))],false,[],[]⟩)]) (rs:=[.tmp 4]) (L:=rs) (fun c=>(a2 n40 0 1 c)) Try.mixed Try.func11 (fun c=>
(sq (a2 n40 0 1 c)
(sn
(sn
(sl (a0 n1 c))
(sq (a2 n32 2 3 c)
(bk 0 (lp [3,32,33,34] rs [(0,[])] (a4 n31 3 32 33 34 c) g1_ (fun i vs h=>if i=0 then n1 c.W c.R c.N c.E c.P h else c.E i vs h) (.b (.t .o)) fun c=>
(sq (a4 n30 3 32 33 34 c)
(sn
(sn
(sm (a4 n2 3 32 33 34 c))
(bk 1 (sq (a4 n28 3 32 33 34 c)
(sq (a6 n27 3 5 6 32 33 34 c)
(sn
(sq (a6 n11 3 6 7 32 33 34 c)
(bk 2 (lp [3,7,32,33,34,94,95,96] rs [(2,[3,32,33,34]),(1,[3,32,33,34]),(0,[])] (a8 n10 3 7 32 33 34 94 95 96 c) g2_ (fun i vs h=>if i=2 then n2 c.W c.R c.N c.E c.P (vs.getD 0 noA) (vs.getD 1 noA) (vs.getD 2 noA) (vs.getD 3 noA) h else if i=1 then n2 c.W c.R c.N c.E c.P (vs.getD 0 noA) (vs.getD 1 noA) (vs.getD 2 noA) (vs.getD 3 noA) h else c.E i vs h) (.b (.b (.t .o))) fun c=>
(sq (a8 n9 3 7 32 33 34 94 95 96 c)
(sn
(sn
(sm (a8 n3 3 7 32 33 34 94 95 96 c))
(bk 3 (sq (a8 n7 3 7 32 33 34 94 95 96 c)
(sq (a10 n6 3 7 8 9 32 33 34 94 95 96 c)
(cd (a9 n5 3 7 32 33 34 94 95 96 107 c) (sl (a0 n4 c)) tr)))))
(cd (a9 n8 3 7 32 33 34 94 95 96 97 c) tr tr))))))
(sn
(cd (a7 n13 3 6 7 32 33 34 92 c) (sl (a0 n12 c)) tr)
(gr (gn (a6 n26 3 6 7 32 33 34 c) (gx (a7 n25 3 6 7 32 33 34 49 c) (gn (a8 n24 3 6 7 32 33 34 49 54 c) (gx (a7 n23 3 6 7 32 33 34 56 c) (gn (a8 n22 3 6 7 32 33 34 56 61 c) (gx (a7 n21 3 6 7 32 33 34 63 c) (gn (a8 n20 3 6 7 32 33 34 63 68 c) (gx (a7 n19 3 6 7 32 33 34 70 c) (gn (a8 n18 3 6 7 32 33 34 70 75 c) (gx (a7 n17 3 6 7 32 33 34 77 c) (gn (a8 n16 3 6 7 32 33 34 77 82 c) (gx (a7 n15 3 6 7 32 33 34 84 c) (gl (a8 n14 3 6 7 32 33 34 84 91 c)))))))))))))))))))))
(cd (a5 n29 3 32 33 34 35 c) tr tr)))))))
(sn
(cd (a3 n34 2 3 30 c) (sl (a0 n33 c)) tr)
(gr (gn (a2 n39 2 3 c) (gx (a3 n38 2 3 15 c) (gn (a4 n37 2 3 15 20 c) (gx (a3 n36 2 3 22 c) (gl (a4 n35 2 3 22 29 c))))))))))) hp
attribute [simp] n1 n2 n3 n4 n5 n6 n7 n8 n9 n11 n12 n13 n14 n15 n16 n17 n18 n19 n20 n21 n22 n23 n24 n25 n26 n27 n28 n29 n30 n32 n33 n34 n35 n36 n37 n38 n39 n40
end F11
namespace F12
abbrev rs:List Nat:=[4]
def n1:N0:=fun _ R _ _ _ h=>
R [(.sc (.bool true))] h
def n2:N3:=fun _ _ N _ _ x28 x29 x30 h=>
pBin Try.prog .add 3 true x30 (.sc (.int .i64 1)) fun t1=>
N [x28,x29,t1] h
def n3:N0:=fun _ R _ _ _ h=>
R [(.sc (.bool false))] h
def n4:N4:=fun W R N E P x28 x29 x30 x46 h=>
aIf x46 (
n3 W R N E P h) (
n2 W R N E P x28 x29 x30 h)
def n5:N4:=fun W R N E P x6 x28 x29 x30 h=>
pFld (some 2) x6 fun t2=>
lLd (some false) (some 1) t2 h fun t3 _=>
pFld (some 2) x6 fun t5=>
lLd (some false) (some 1) t5 h fun t6 _=>
(strArg t6=false)/\pLen t6 fun t8=>
pBin Try.prog .add 3 true t8 (.sc (.int .i64 1)) fun t9=>
pSlL (some 1) t3 none (some t9) h fun t10=>
pFld (some 2) x6 fun t11=>
lLd (some false) (some 1) t11 h fun t12 _=>
(strArg t12=false)/\pLen t12 fun t14=>
pIxA (some (1,none)) t10 t14 fun t15=>
lLd (some false) (some 1) t15 h fun t16 _=>
pBin Try.prog .neq 3 true t16 (.sc (.int .i64 (-77))) fun t18=>
n4 W R N E P x28 x29 x30 t18 h
def n6:N3:=fun W R N E P x28 x29 x30 h=>
pIxA (some (7,none)) x28 x30 fun t19=>
lLd (some true) (some 7) t19 h fun t20 _=>
eAlloc (some [.int .i64 0,.string ⟨#[]⟩,.slice none 0 0,.int .i64 0,.bool false,.int .u64 0,.int .u64 0]) 7 45 h fun t22 h23=>
eStore (some 7) t22 t20 h23 W fun h24=>
n5 W R N E P t22 x28 x29 x30 h24
def n7:N4:=fun W R N E P x28 x29 x30 x31 h=>
aIf x31 (
n6 W R N E P x28 x29 x30 h) (
E 0 [] h)
def n8:N3:=fun W R N E P x28 x29 x30 h=>
pBin Try.prog .lss 3 false x30 x29 fun t25=>
n7 W R N E P x28 x29 x30 t25 h
def g1_:GK:=fun W R N E P N' vs h=>n8 W R N' (fun(i:Nat) (vs:List AV) (h:AH)=>if i=0 then n1 W R N E P h else E i vs h) P (vs.getD 0 noA) (vs.getD 1 noA) (vs.getD 2 noA) h
def n9:N3:=fun W R N E P x28 x29 x30 h=>
vLoop (g1_ W R N E P) [x28,x29,x30] h
def n10:N1:=fun W R N E P x2 h=>
pFld (some 2) x2 fun t26=>
lLd (some false) (some 1) t26 h fun t27 _=>
(strArg t27=false)/\pLen t27 fun t29=>
n9 W R N E P t27 t29 (.sc (.int .i64 0)) h
def n11:N0:=fun _ R _ _ _ h=>
R [(.sc (.bool false))] h
def n12:N2:=fun W R N E P x2 x26 h=>
aIf x26 (
n11 W R N E P h) (
n10 W R N E P x2 h)
def n13:N3:=fun W R N E P x2 x11 x25 h=>
pPick x11 (.sc (.bool true)) x25 fun t30=>
n12 W R N E P x2 t30 h
def n14:N3:=fun W R N E P x2 x3 x11 h=>
aIg false x11 (
pFld (some 2) x2 fun t31=>
lLd (some false) (some 1) t31 h fun t32 _=>
pFld (some 2) x3 fun t34=>
lLd (some false) (some 1) t34 h fun t35 _=>
(strArg t35=false)/\pLen t35 fun t37=>
pBin Try.prog .add 3 true t37 (.sc (.int .i64 1)) fun t38=>
pSlL (some 7) t32 none (some t38) h fun t39=>
pFld (some 2) x3 fun t40=>
lLd (some false) (some 1) t40 h fun t41 _=>
(strArg t41=false)/\pLen t41 fun t43=>
pIxA (some (7,none)) t39 t43 fun t44=>
pFld (some 0) t44 fun t45=>
lLd (some false) (some 1) t45 h fun t46 _=>
pBin Try.prog .neq 3 true t46 (.sc (.int .i64 (-77))) fun t48=>
n13 W R N E P x2 x11 t48 h) (
n13 W R N E P x2 x11 noA h)
def n15:N2:=fun W R N E P x2 x3 h=>
lLd (some true) (some 3) x2 h fun t49 _=>
lLd (some true) (some 3) x3 h fun t51 _=>
aCall Try.prog W 11 [t49,t51] h (fun t53 h54=>
pUn .not t53 fun t55=>
n14 W R N E P x2 x3 t55 h54) P
def n16:N2:=fun W R N E P x0 x1 h=>
eBox 3 24 x0 h fun t56 h57=>
eBox 3 24 x1 h57 fun t58 h59=>
n15 W R N E P t56 t58 h59
theorem callsN{x0 x1:AV}{h:AH}{M:WK}{R:RK}(hp:n16 (fun id=>M id\/h.next<=id) (retV Try.prog [.tmp 4] R) (retV Try.prog [.tmp 4] R) (fun _ _ _=>False) (fun v h=>R (.pan v) h) x0 x1 h):ACalls Try.prog 12 [x0,x1] h M R:=
 fin (n:=48) (pl:=[(1,⟨[(none,(fr 0 5)),(some (4,false),(fr 5 14)),(none,(fr 19 1))],false,[],[]⟩),(6,⟨[(none,(fr 0 13))],false,[],[]⟩)]) (rs:=[.tmp 4]) (L:=rs) (fun c=>(a2 n16 0 1 c)) Try.mixed Try.func12 (fun c=>
(sq (a2 n16 0 1 c)
(sn
(sn
(sl (a0 n1 c))
(sq (a1 n10 2 c)
(bk 0 (lp [28,29,30] rs [(0,[])] (a3 n9 28 29 30 c) g1_ (fun i vs h=>if i=0 then n1 c.W c.R c.N c.E c.P h else c.E i vs h) (.b (.t .o)) fun c=>
(sq (a3 n8 28 29 30 c)
(sn
(sn
(sm (a3 n2 28 29 30 c))
(bk 1 (sq (a3 n6 28 29 30 c)
(sq (a4 n5 6 28 29 30 c)
(cd (a4 n4 28 29 30 46 c) (sl (a0 n3 c)) tr)))))
(cd (a4 n7 28 29 30 31 c) tr tr)))))))
(sn
(cd (a2 n12 2 26 c) (sl (a0 n11 c)) tr)
(gr (gn (a2 n15 2 3 c) (gx (a3 n14 2 3 11 c) (gl (a3 n13 2 11 25 c))))))))) hp
attribute [simp] n1 n2 n3 n4 n5 n6 n7 n8 n10 n11 n12 n13 n14 n15 n16
end F12
namespace F13
abbrev rs:List Nat:=[]
def n1:N3:=fun _ _ N _ _ x1 x6 x7 h=>
pBin Try.prog .add 3 true x7 (.sc (.int .i64 1)) fun t1=>
N [x1,x6,t1] h
def n2:N4:=fun W R N E P x1 x2 x6 x7 h=>
pFld (some 2) x1 fun t2=>
lLd (some false) (some 1) t2 h fun t3 _=>
pIxA (some (7,none)) t3 x2 fun t5=>
pFld (some 1) t5 fun t6=>
eStore (some 1) t6 (.sc (.string ⟨#[115,112,111,105,108,116]⟩)) h W fun h7=>
n1 W R N E P x1 x6 x7 h7
def n3:N4:=fun W R N E P x1 x2 x6 x7 h=>
∃Hd:Nat->Nat,(∀i∈[1],h.obj (Hd i)≠none)/\(
pFld (some 2) x1 fun t8=>
lLd (some false) (some 1) t8 h fun t9 i10=>
(i10=Hd 1)/\(
pFld (some 2) x1 fun t11=>
lLd (some false) (some 1) t11 h fun t12 _=>
pIxA (some (7,none)) t12 x2 fun t14=>
pFld (some 2) t14 fun t15=>
lLd (some false) (some 1) t15 h fun t16 _=>
eBSl (some (1,3,[.int .i64 0])) 1 [(0,(.sc (.int .i64 (-6))))] h fun t18 h19=>
eApp (some (1,8,3)) t16 t18 h19 (banL W Hd [1]) fun t20 h21=>
pIxA (some (7,none)) t9 x2 fun t22=>
pFld (some 2) t22 fun t23=>
eStore (some 1) t23 t20 h21 W fun h24=>
n2 W R N E P x1 x2 x6 x7 h24))
def n4:N6:=fun _ _ N _ _ x1 x2 x6 x7 x16 x17 h=>
pBin Try.prog .add 3 true x17 (.sc (.int .i64 1)) fun t25=>
N [x1,x2,x6,x7,x16,t25] h
def n5:N7:=fun W R N E P x1 x2 x3 x6 x7 x16 x17 h=>
pFld (some 2) x1 fun t26=>
lLd (some false) (some 1) t26 h fun t27 _=>
pIxA (some (7,none)) t27 x2 fun t29=>
pFld (some 2) t29 fun t30=>
lLd (some false) (some 1) t30 h fun t31 _=>
pIxA (some (1,none)) t31 x3 fun t33=>
eStore (some 1) t33 (.sc (.int .i64 (-5))) h W fun h34=>
n4 W R N E P x1 x2 x6 x7 x16 x17 h34
def n6:N6:=fun W R N E P x1 x2 x6 x7 x16 x17 h=>
n5 W R N E P x1 x2 x17 x6 x7 x16 x17 h
def n7:N7:=fun W R N E P x1 x2 x6 x7 x16 x17 x18 h=>
aIf x18 (
n6 W R N E P x1 x2 x6 x7 x16 x17 h) (
E 2 [x1,x2,x6,x7] h)
def n8:N6:=fun W R N E P x1 x2 x6 x7 x16 x17 h=>
pBin Try.prog .lss 3 false x17 x16 fun t35=>
n7 W R N E P x1 x2 x6 x7 x16 x17 t35 h
def g2_:GK:=fun W R N E P N' vs h=>n8 W R N' (fun(i:Nat) (vs:List AV) (h:AH)=>if i=2 then n3 W R N E P (vs.getD 0 noA) (vs.getD 1 noA) (vs.getD 2 noA) (vs.getD 3 noA) h else if i=1 then n1 W R N E P (vs.getD 0 noA) (vs.getD 1 noA) (vs.getD 2 noA) h else E i vs h) P (vs.getD 0 noA) (vs.getD 1 noA) (vs.getD 2 noA) (vs.getD 3 noA) (vs.getD 4 noA) (vs.getD 5 noA) h
def n9:N6:=fun W R N E P x1 x2 x6 x7 x16 x17 h=>
vLoop (g2_ W R N E P) [x1,x2,x6,x7,x16,x17] h
def n10:N4:=fun W R N E P x1 x2 x6 x7 h=>
pFld (some 2) x1 fun t36=>
lLd (some false) (some 1) t36 h fun t37 _=>
pIxA (some (7,none)) t37 x2 fun t39=>
pFld (some 2) t39 fun t40=>
lLd (some false) (some 1) t40 h fun t41 _=>
(strArg t41=false)/\pLen t41 fun t43=>
n9 W R N E P x1 x2 x6 x7 t43 (.sc (.int .i64 0)) h
def n11:N3:=fun W R N E P x1 x6 x7 h=>
n10 W R N E P x1 x7 x6 x7 h
def n12:N4:=fun W R N E P x1 x6 x7 x8 h=>
aIf x8 (
n11 W R N E P x1 x6 x7 h) (
E 0 [] h)
def n13:N3:=fun W R N E P x1 x6 x7 h=>
pBin Try.prog .lss 3 false x7 x6 fun t44=>
n12 W R N E P x1 x6 x7 t44 h
def g1_:GK:=fun W R N E P N' vs h=>n13 W R N' (fun(i:Nat) (vs:List AV) (h:AH)=>if i=0 then N vs h else E i vs h) P (vs.getD 0 noA) (vs.getD 1 noA) (vs.getD 2 noA) h
def n14:N3:=fun W R N E P x1 x6 x7 h=>
vLoop (g1_ W R N E P) [x1,x6,x7] h
def n15:N1:=fun W R N E P x1 h=>
pFld (some 2) x1 fun t45=>
lLd (some false) (some 1) t45 h fun t46 _=>
(strArg t46=false)/\pLen t46 fun t48=>
n14 W R N E P x1 t48 (.sc (.int .i64 0)) h
def n16:N1:=fun W R N E P x0 h=>
eBox 3 24 x0 h fun t49 h50=>
n15 W R N E P t49 h50
theorem callsN{x0:AV}{h:AH}{M:WK}{R:RK}(hp:n16 (fun id=>M id\/h.next<=id) (retV Try.prog [] R) (retV Try.prog [] R) (fun _ _ _=>False) (fun v h=>R (.pan v) h) x0 h):ACalls Try.prog 13 [x0] h M R:=
 fin (n:=48) (pl:=[(9,⟨[(none,[(0,false),(1,true),(2,false),(3,false),(4,false),(5,false),(6,false),(7,false),(8,false),(9,false),(10,false),(11,false),(12,false),(13,false)])],true,[],[]⟩)]) (rs:=[]) (L:=rs) (fun c=>(a1 n16 0 c)) Try.mixed Try.func13 (fun c=>
(sq (a1 n16 0 c)
(sq (a1 n15 1 c)
(bk 0 (lp [1,6,7] rs [(0,[])] (a3 n14 1 6 7 c) g1_ (fun i vs h=>if i=0 then c.N vs h else c.E i vs h) (.b .o) fun c=>
(sq (a3 n13 1 6 7 c)
(sn
(sn
(sm (a3 n1 1 6 7 c))
(bk 1 (sq (a3 n11 1 6 7 c)
(sn
(sn
(sm (a4 n2 1 2 6 7 c))
(sm (a4 n3 1 2 6 7 c)))
(sq (a4 n10 1 2 6 7 c)
(bk 2 (lp [1,2,6,7,16,17] rs [(2,[1,2,6,7]),(1,[1,6,7]),(0,[])] (a6 n9 1 2 6 7 16 17 c) g2_ (fun i vs h=>if i=2 then n3 c.W c.R c.N c.E c.P (vs.getD 0 noA) (vs.getD 1 noA) (vs.getD 2 noA) (vs.getD 3 noA) h else if i=1 then n1 c.W c.R c.N c.E c.P (vs.getD 0 noA) (vs.getD 1 noA) (vs.getD 2 noA) h else c.E i vs h) (.b (.t (.b (.t .o)))) fun c=>
(sq (a6 n8 1 2 6 7 16 17 c)
(sn
(sn
(sm (a6 n4 1 2 6 7 16 17 c))
(bk 3 (sq (a6 n6 1 2 6 7 16 17 c)
(sm (a7 n5 1 2 3 6 7 16 17 c)))))
(cd (a7 n7 1 2 6 7 16 17 18 c) tr tr))))))))))
(cd (a4 n12 1 6 7 8 c) tr tr)))))))) hp
attribute [simp] n1 n2 n3 n4 n5 n6 n7 n8 n10 n11 n12 n13 n15 n16
end F13
end Go.Proofs.Ytbdibjgoeeokoaa
