/- Bodies of the circuit checks; printed. No condition. -/
import Derived.Test.YtbdibjgoeeokoaaGl
set_option maxRecDepth 100000
namespace Go.Proofs.Ytbdibjgoeeokoaa
open Go.Ab
namespace F22
abbrev rs:List Nat:=[2,3]
def n1:N0:=fun _ R _ _ _ h=>
R [(.sc (.int .i64 0)),(.sc (.int .i64 0))] h
def n2:N5:=fun _ _ N _ _ x1 x4 x31 x32 x33 h=>
pBin Try.prog .add 3 true x33 (.sc (.int .i64 1)) fun t1=>
N [x1,x4,x31,x32,t1] h
def n3:N1:=fun _ R _ _ _ x5 h=>
R [x5,(.sc (.int .i64 116))] h
def n4:N7:=fun W R N E P x1 x4 x5 x31 x32 x33 x50 h=>
aIf x50 (
n3 W R N E P x5 h) (
n2 W R N E P x1 x4 x31 x32 x33 h)
def n5:N6:=fun W R N E P x1 x4 x5 x31 x32 x33 h=>
pBin Try.prog .gtr 3 true x4 (.sc (.int .i64 36)) fun t2=>
n4 W R N E P x1 x4 x5 x31 x32 x33 t2 h
def n6:N7:=fun W R N E P x1 x4 x5 x6 x31 x32 x33 h=>
lLd (some true) (some 7) x6 h fun t3 _=>
aCall Try.prog W 41 [t3] h (fun t5 h6=>
pBin Try.prog .add 3 false x4 t5 fun t7=>
n5 W R N E P x1 t7 x5 x31 x32 x33 h6) P
def n7:N2:=fun _ R _ _ _ x5 x7 h=>
R [x5,x7] h
def n8:N9:=fun W R N E P x1 x4 x5 x6 x7 x31 x32 x33 x42 h=>
aIf x42 (
n7 W R N E P x5 x7 h) (
n6 W R N E P x1 x4 x5 x6 x31 x32 x33 h)
def n9:N8:=fun W R N E P x1 x4 x5 x6 x7 x31 x32 x33 h=>
pBin Try.prog .neq 30 true x7 (.sc (.int .i64 0)) fun t8=>
n8 W R N E P x1 x4 x5 x6 x7 x31 x32 x33 t8 h
def n10:N7:=fun W R N E P x1 x4 x5 x6 x31 x32 x33 h=>
lLd (some true) (some 3) x1 h fun t9 _=>
lLd (some true) (some 7) x6 h fun t11 _=>
aCall Try.prog W 40 [t9,t11] h (fun t13 h14=>
n9 W R N E P x1 x4 x5 x6 t13 x31 x32 x33 h14) P
def n11:N5:=fun W R N E P x1 x4 x31 x32 x33 h=>
pIxA (some (7,none)) x31 x33 fun t15=>
lLd (some true) (some 7) t15 h fun t16 _=>
eAlloc (some [.int .i64 0,.string ⟨#[]⟩,.slice none 0 0,.int .i64 0,.bool false,.int .u64 0,.int .u64 0]) 7 45 h fun t18 h19=>
eStore (some 7) t18 t16 h19 W fun h20=>
n10 W R N E P x1 x4 x33 t18 x31 x32 x33 h20
def n12:N6:=fun W R N E P x1 x4 x31 x32 x33 x34 h=>
aIf x34 (
n11 W R N E P x1 x4 x31 x32 x33 h) (
E 0 [] h)
def n13:N5:=fun W R N E P x1 x4 x31 x32 x33 h=>
pBin Try.prog .lss 3 false x33 x32 fun t21=>
n12 W R N E P x1 x4 x31 x32 x33 t21 h
def g1_:GK:=fun W R N E P N' vs h=>n13 W R N' (fun(i:Nat) (vs:List AV) (h:AH)=>if i=0 then n1 W R N E P h else E i vs h) P (vs.getD 0 noA) (vs.getD 1 noA) (vs.getD 2 noA) (vs.getD 3 noA) (vs.getD 4 noA) h
def n14:N5:=fun W R N E P x1 x4 x31 x32 x33 h=>
vLoop (g1_ W R N E P) [x1,x4,x31,x32,x33] h
def n15:N2:=fun W R N E P x1 x4 h=>
pFld (some 2) x1 fun t22=>
lLd (some false) (some 1) t22 h fun t23 _=>
(strArg t23=false)/\pLen t23 fun t25=>
n14 W R N E P x1 x4 t23 t25 (.sc (.int .i64 0)) h
def n16:N1:=fun W R N E P x1 h=>
n15 W R N E P x1 (.sc (.int .i64 0)) h
def n17:N0:=fun _ R _ _ _ h=>
R [(.sc (.int .i64 0)),(.sc (.int .i64 115))] h
def n18:N2:=fun W R N E P x1 x29 h=>
aIf x29 (
n17 W R N E P h) (
n16 W R N E P x1 h)
def n19:N1:=fun W R N E P x1 h=>
pFld (some 2) x1 fun t26=>
lLd (some false) (some 1) t26 h fun t27 _=>
(strArg t27=false)/\pLen t27 fun t29=>
pBin Try.prog .gtr 3 true t29 (.sc (.int .i64 4096)) fun t30=>
n18 W R N E P x1 t30 h
def n20:N0:=fun _ R _ _ _ h=>
R [(.sc (.int .i64 0)),(.sc (.int .i64 2))] h
def n21:N2:=fun W R N E P x1 x25 h=>
aIf x25 (
n20 W R N E P h) (
n19 W R N E P x1 h)
def n22:N3:=fun W R N E P x1 x21 x24 h=>
pPick x21 (.sc (.bool true)) x24 fun t31=>
n21 W R N E P x1 t31 h
def n23:N2:=fun W R N E P x1 x21 h=>
aIg false x21 (
pFld (some 1) x1 fun t32=>
lLd (some false) (some 1) t32 h fun t33 _=>
pBin Try.prog .gtr 3 true t33 (.sc (.int .i64 64)) fun t35=>
n22 W R N E P x1 x21 t35 h) (
n22 W R N E P x1 x21 noA h)
def n24:N3:=fun W R N E P x1 x16 x19 h=>
pPick x16 (.sc (.bool true)) x19 fun t36=>
n23 W R N E P x1 t36 h
def n25:N2:=fun W R N E P x1 x16 h=>
aIg false x16 (
pFld (some 1) x1 fun t37=>
lLd (some false) (some 1) t37 h fun t38 _=>
pBin Try.prog .lss 3 true t38 (.sc (.int .i64 0)) fun t40=>
n24 W R N E P x1 x16 t40 h) (
n24 W R N E P x1 x16 noA h)
def n26:N3:=fun W R N E P x1 x11 x14 h=>
pPick x11 (.sc (.bool true)) x14 fun t41=>
n25 W R N E P x1 t41 h
def n27:N2:=fun W R N E P x1 x11 h=>
aIg false x11 (
pFld (some 0) x1 fun t42=>
lLd (some false) (some 1) t42 h fun t43 _=>
pBin Try.prog .gtr 3 true t43 (.sc (.int .i64 64)) fun t45=>
n26 W R N E P x1 x11 t45 h) (
n26 W R N E P x1 x11 noA h)
def n28:N1:=fun W R N E P x1 h=>
pFld (some 0) x1 fun t46=>
lLd (some false) (some 1) t46 h fun t47 _=>
pBin Try.prog .lss 3 true t47 (.sc (.int .i64 0)) fun t49=>
n27 W R N E P x1 t49 h
def n29:N1:=fun W R N E P x0 h=>
eBox 3 24 x0 h fun t50 h51=>
n28 W R N E P t50 h51
theorem callsN{x0:AV}{h:AH}{M:WK}{R:RK}(hp:n29 (fun id=>M id\/h.next<=id) (retV Try.prog [.tmp 2,.tmp 3] R) (retV Try.prog [.tmp 2,.tmp 3] R) (fun _ _ _=>False) (fun v h=>R (.pan v) h) x0 h):ACalls Try.prog 22 [x0] h M R:=
 fin (n:=53) (pl:=[(1,⟨[(none,(fr 0 4)),(some (3,false),(fr 4 3)),(none,(fr 7 2)),(some (8,false),(fr 9 3)),(none,(fr 12 2)),(some (13,false),(fr 14 3)),(none,(fr 17 1))],false,[],[]⟩)]) (rs:=[.tmp 2,.tmp 3]) (L:=rs) (fun c=>(a1 n29 0 c)) Try.mixed Try.func22 (fun c=>
(sq (a1 n29 0 c)
(sn
(sn
(sq (a1 n16 1 c)
(sn
(sl (a0 n1 c))
(sq (a2 n15 1 4 c)
(bk 0 (lp [1,4,31,32,33] rs [(0,[])] (a5 n14 1 4 31 32 33 c) g1_ (fun i vs h=>if i=0 then n1 c.W c.R c.N c.E c.P h else c.E i vs h) (.b (.t .o)) fun c=>
(sq (a5 n13 1 4 31 32 33 c)
(sn
(sn
(sm (a5 n2 1 4 31 32 33 c))
(bk 1 (sq (a5 n11 1 4 31 32 33 c)
(sn
(sq (a7 n6 1 4 5 6 31 32 33 c)
(sq (a6 n5 1 4 5 31 32 33 c)
(cd (a7 n4 1 4 5 31 32 33 50 c) (sl (a1 n3 5 c)) tr)))
(sq (a7 n10 1 4 5 6 31 32 33 c)
(sq (a8 n9 1 4 5 6 7 31 32 33 c)
(cd (a9 n8 1 4 5 6 7 31 32 33 42 c) (sl (a2 n7 5 7 c)) tr)))))))
(cd (a6 n12 1 4 31 32 33 34 c) tr tr))))))))
(sq (a1 n19 1 c)
(cd (a2 n18 1 29 c) (sl (a0 n17 c)) tr)))
(sn
(cd (a2 n21 1 25 c) (sl (a0 n20 c)) tr)
(gr (gn (a1 n28 1 c) (gx (a2 n27 1 11 c) (gn (a3 n26 1 11 14 c) (gx (a2 n25 1 16 c) (gn (a3 n24 1 16 19 c) (gx (a2 n23 1 21 c) (gl (a3 n22 1 21 24 c))))))))))))) hp
attribute [simp] n1 n2 n3 n4 n5 n6 n7 n8 n9 n10 n11 n12 n13 n15 n16 n17 n18 n19 n20 n21 n22 n23 n24 n25 n26 n27 n28 n29
end F22
namespace F40
abbrev rs:List Nat:=[4]
def n1:N0:=fun _ R _ _ _ h=>
R [(.sc (.int .i64 0))] h
def n2:N4:=fun _ _ N _ _ x3 x128 x129 x130 h=>
pBin Try.prog .add 3 true x130 (.sc (.int .i64 1)) fun t1=>
N [x3,x128,x129,t1] h
def n3:N0:=fun _ R _ _ _ h=>
R [(.sc (.int .i64 113))] h
def n4:N5:=fun W R N E P x3 x128 x129 x130 x140 h=>
aIf x140 (
n3 W R N E P h) (
n2 W R N E P x3 x128 x129 x130 h)
def n5:N6:=fun W R N E P x3 x10 x11 x128 x129 x130 h=>
pFld (some 2) x3 fun t2=>
lLd (some false) (some 1) t2 h fun t3 _=>
pSlL (some 1) t3 none (some x10) h fun t5=>
aCall Try.prog W 58 [t5,x11] h (fun t6 h7=>
n4 W R N E P x3 x128 x129 x130 t6 h7) P
def n6:N4:=fun W R N E P x3 x128 x129 x130 h=>
pIxA (some (1,none)) x128 x130 fun t8=>
lLd (some false) (some 1) t8 h fun t9 _=>
n5 W R N E P x3 x130 t9 x128 x129 x130 h
def n7:N5:=fun W R N E P x3 x128 x129 x130 x131 h=>
aIf x131 (
n6 W R N E P x3 x128 x129 x130 h) (
E 3 [] h)
def n8:N4:=fun W R N E P x3 x128 x129 x130 h=>
pBin Try.prog .lss 3 false x130 x129 fun t11=>
n7 W R N E P x3 x128 x129 x130 t11 h
def g1_:GK:=fun W R N E P N' vs h=>n8 W R N' (fun(i:Nat) (vs:List AV) (h:AH)=>if i=3 then n1 W R N E P h else E i vs h) P (vs.getD 0 noA) (vs.getD 1 noA) (vs.getD 2 noA) (vs.getD 3 noA) h
def n9:N4:=fun W R N E P x3 x128 x129 x130 h=>
vLoop (g1_ W R N E P) [x3,x128,x129,x130] h
def n10:N1:=fun W R N E P x3 h=>
pFld (some 2) x3 fun t12=>
lLd (some false) (some 1) t12 h fun t13 _=>
(strArg t13=false)/\pLen t13 fun t15=>
n9 W R N E P x3 t13 t15 (.sc (.int .i64 0)) h
def n11:N0:=fun _ R _ _ _ h=>
R [(.sc (.int .i64 112))] h
def n12:N2:=fun W R N E P x3 x126 h=>
aIf x126 (
n11 W R N E P h) (
n10 W R N E P x3 h)
def n13:N3:=fun W R N E P x3 x115 x125 h=>
pPick x115 x125 (.sc (.bool false)) fun t16=>
n12 W R N E P x3 t16 h
def n14:N4:=fun W R N E P x3 x115 x119 x124 h=>
aIg true x115 (
pPick x119 (.sc (.bool true)) x124 fun t17=>
n13 W R N E P x3 x115 t17 h) (
n13 W R N E P x3 x115 noA h)
def n15:N4:=fun W R N E P x2 x3 x115 x119 h=>
aIg false x119 (
pFld (some 3) x3 fun t18=>
lLd (some false) (some 1) t18 h fun t19 _=>
pFld (some 1) x2 fun t21=>
lLd (some false) (some 1) t21 h fun t22 _=>
pBin Try.prog .geq 3 false t19 t22 fun t24=>
n14 W R N E P x3 x115 x119 t24 h) (
n14 W R N E P x3 x115 x119 noA h)
def n16:N3:=fun W R N E P x2 x3 x115 h=>
aIg true x115 (
pFld (some 3) x3 fun t25=>
lLd (some false) (some 1) t25 h fun t26 _=>
pBin Try.prog .lss 3 true t26 (.sc (.int .i64 0)) fun t28=>
n15 W R N E P x2 x3 x115 t28 h) (
n15 W R N E P x2 x3 x115 noA h)
def n17:N2:=fun W R N E P x2 x3 h=>
pFld (some 0) x3 fun t29=>
lLd (some false) (some 1) t29 h fun t30 _=>
pBin Try.prog .eql 3 true t30 (.sc (.int .i64 2)) fun t32=>
n16 W R N E P x2 x3 t32 h
def n18:N5:=fun _ _ N _ _ x2 x3 x97 x98 x99 h=>
pBin Try.prog .add 3 true x99 (.sc (.int .i64 1)) fun t33=>
N [x2,x3,x97,x98,t33] h
def n19:N0:=fun _ R _ _ _ h=>
R [(.sc (.int .i64 112))] h
def n20:N6:=fun W R N E P x2 x3 x97 x98 x99 x110 h=>
aIf x110 (
n19 W R N E P h) (
n18 W R N E P x2 x3 x97 x98 x99 h)
def n21:N7:=fun W R N E P x2 x3 x97 x98 x99 x105 x109 h=>
pPick x105 (.sc (.bool true)) x109 fun t34=>
n20 W R N E P x2 x3 x97 x98 x99 t34 h
def n22:N7:=fun W R N E P x2 x3 x9 x97 x98 x99 x105 h=>
aIg false x105 (
pFld (some 0) x2 fun t35=>
lLd (some false) (some 1) t35 h fun t36 _=>
pBin Try.prog .geq 3 false x9 t36 fun t38=>
n21 W R N E P x2 x3 x97 x98 x99 x105 t38 h) (
n21 W R N E P x2 x3 x97 x98 x99 x105 noA h)
def n23:N6:=fun W R N E P x2 x3 x9 x97 x98 x99 h=>
pBin Try.prog .lss 3 true x9 (.sc (.int .i64 0)) fun t39=>
n22 W R N E P x2 x3 x9 x97 x98 x99 t39 h
def n24:N5:=fun W R N E P x2 x3 x97 x98 x99 h=>
pIxA (some (1,none)) x97 x99 fun t40=>
lLd (some false) (some 1) t40 h fun t41 _=>
n23 W R N E P x2 x3 t41 x97 x98 x99 h
def n25:N6:=fun W R N E P x2 x3 x97 x98 x99 x100 h=>
aIf x100 (
n24 W R N E P x2 x3 x97 x98 x99 h) (
E 1 [x2,x3] h)
def n26:N5:=fun W R N E P x2 x3 x97 x98 x99 h=>
pBin Try.prog .lss 3 false x99 x98 fun t43=>
n25 W R N E P x2 x3 x97 x98 x99 t43 h
def g2_:GK:=fun W R N E P N' vs h=>n26 W R N' (fun(i:Nat) (vs:List AV) (h:AH)=>if i=1 then n17 W R N E P (vs.getD 0 noA) (vs.getD 1 noA) h else E i vs h) P (vs.getD 0 noA) (vs.getD 1 noA) (vs.getD 2 noA) (vs.getD 3 noA) (vs.getD 4 noA) h
def n27:N5:=fun W R N E P x2 x3 x97 x98 x99 h=>
vLoop (g2_ W R N E P) [x2,x3,x97,x98,x99] h
def n28:N2:=fun W R N E P x2 x3 h=>
pFld (some 2) x3 fun t44=>
lLd (some false) (some 1) t44 h fun t45 _=>
(strArg t45=false)/\pLen t45 fun t47=>
n27 W R N E P x2 x3 t45 t47 (.sc (.int .i64 0)) h
def n29:N0:=fun _ R _ _ _ h=>
R [(.sc (.int .i64 111))] h
def n30:N3:=fun W R N E P x2 x3 x95 h=>
aIf x95 (
n29 W R N E P h) (
n28 W R N E P x2 x3 h)
def n31:N3:=fun W R N E P x2 x3 x7 h=>
pFld (some 2) x3 fun t48=>
lLd (some false) (some 1) t48 h fun t49 _=>
(strArg t49=false)/\pLen t49 fun t51=>
pBin Try.prog .neq 3 false t51 x7 fun t52=>
n30 W R N E P x2 x3 t52 h
def n32:N0:=fun _ R _ _ _ h=>
R [(.sc (.int .i64 80))] h
def n33:N4:=fun W R N E P x2 x3 x7 x90 h=>
aIf x90 (
n32 W R N E P h) (
n31 W R N E P x2 x3 x7 h)
def n34:N3:=fun W R N E P x2 x3 x7 h=>
pBin Try.prog .eql 3 true x7 (.sc (.int .i64 0)) fun t53=>
n33 W R N E P x2 x3 x7 t53 h
def n35:N2:=fun W R N E P x2 x3 h=>
pFld (some 1) x3 fun t54=>
lLd (some false) (some 1) t54 h fun t55 _=>
aCall Try.prog W 57 [t55] h (fun t57 h58=>
n34 W R N E P x2 x3 t57 h58) P
def n36:N4:=fun W R N E P x2 x3 x7 x85 h=>
aIf x85 (
n35 W R N E P x2 x3 h) (
n31 W R N E P x2 x3 x7 h)
def n37:N3:=fun W R N E P x2 x3 x7 h=>
pFld (some 0) x3 fun t59=>
lLd (some false) (some 1) t59 h fun t60 _=>
pBin Try.prog .eql 3 true t60 (.sc (.int .i64 1)) fun t62=>
n36 W R N E P x2 x3 x7 t62 h
def n38:N2:=fun W R N E P x2 x3 h=>
n37 W R N E P x2 x3 (.sc (.int .i64 1)) h
def n39:N0:=fun _ R _ _ _ h=>
R [(.sc (.int .i64 120))] h
def n40:N0:=fun _ R _ _ _ h=>
R [(.sc (.int .i64 120))] h
def n41:N3:=fun W R N E P x2 x3 x66 h=>
aIf x66 (
n40 W R N E P h) (
n38 W R N E P x2 x3 h)
def n42:N4:=fun W R N E P x2 x3 x78 x81 h=>
pPick x78 x81 (.sc (.bool false)) fun t63=>
n41 W R N E P x2 x3 t63 h
def n43:N3:=fun W R N E P x2 x3 x78 h=>
aIg true x78 (
pFld (some 3) x3 fun t64=>
lLd (some false) (some 1) t64 h fun t65 _=>
pBin Try.prog .neq 3 true t65 (.sc (.int .i64 0)) fun t67=>
n42 W R N E P x2 x3 x78 t67 h) (
n42 W R N E P x2 x3 x78 noA h)
def n44:N2:=fun W R N E P x2 x3 h=>
pFld (some 0) x3 fun t68=>
lLd (some false) (some 1) t68 h fun t69 _=>
pBin Try.prog .neq 3 true t69 (.sc (.int .i64 2)) fun t71=>
n43 W R N E P x2 x3 t71 h
def n45:N3:=fun W R N E P x2 x3 x66 h=>
aIf x66 (
n41 W R N E P x2 x3 x66 h) (
n44 W R N E P x2 x3 h)
def n46:N4:=fun W R N E P x2 x3 x70 x73 h=>
pPick x70 x73 (.sc (.bool false)) fun t72=>
n45 W R N E P x2 x3 t72 h
def n47:N3:=fun W R N E P x2 x3 x70 h=>
aIg true x70 (
pFld (some 1) x3 fun t73=>
lLd (some false) (some 1) t73 h fun t74 _=>
pBin Try.prog .neq 9 true t74 (.sc (.string ⟨#[]⟩)) fun t76=>
n46 W R N E P x2 x3 x70 t76 h) (
n46 W R N E P x2 x3 x70 noA h)
def n48:N2:=fun W R N E P x2 x3 h=>
pFld (some 0) x3 fun t77=>
lLd (some false) (some 1) t77 h fun t78 _=>
pBin Try.prog .neq 3 true t78 (.sc (.int .i64 1)) fun t80=>
n47 W R N E P x2 x3 t80 h
def n49:N3:=fun W R N E P x2 x3 x32 h=>
aIf x32 (
n39 W R N E P h) (
n48 W R N E P x2 x3 h)
def n50:N3:=fun W R N E P x2 x3 x32 h=>
aIf x32 (
n49 W R N E P x2 x3 x32 h) (
pFld (some 6) x3 fun t81=>
lLd (some false) (some 1) t81 h fun t82 _=>
pFld (some 5) x3 fun t84=>
lLd (some false) (some 1) t84 h fun t85 _=>
pBin Try.prog .andNot 43 false t82 t85 fun t87=>
pBin Try.prog .neq 43 true t87 (.sc (.int .u64 0)) fun t88=>
n49 W R N E P x2 x3 t88 h)
def n51:N3:=fun W R N E P x2 x3 x6 h=>
pFld (some 5) x3 fun t89=>
lLd (some false) (some 1) t89 h fun t90 _=>
pBin Try.prog .andNot 43 false t90 x6 fun t92=>
pBin Try.prog .neq 43 true t92 (.sc (.int .u64 0)) fun t93=>
n50 W R N E P x2 x3 t93 h
def n52:N4:=fun W R N E P x2 x3 x6 x32 h=>
aIf x32 (
n49 W R N E P x2 x3 x32 h) (
n51 W R N E P x2 x3 x6 h)
def n53:N5:=fun W R N E P x2 x3 x6 x45 x53 h=>
pPick x45 x53 (.sc (.bool false)) fun t94=>
n52 W R N E P x2 x3 x6 t94 h
def n54:N6:=fun W R N E P x2 x3 x6 x45 x49 x52 h=>
aIg true x45 (
pPick x49 (.sc (.bool true)) x52 fun t95=>
n53 W R N E P x2 x3 x6 x45 t95 h) (
n53 W R N E P x2 x3 x6 x45 noA h)
def n55:N5:=fun W R N E P x2 x3 x6 x45 x49 h=>
aIg false x49 (
pFld (some 6) x3 fun t96=>
lLd (some false) (some 1) t96 h fun t97 _=>
pBin Try.prog .neq 43 true t97 (.sc (.int .u64 0)) fun t99=>
n54 W R N E P x2 x3 x6 x45 x49 t99 h) (
n54 W R N E P x2 x3 x6 x45 x49 noA h)
def n56:N4:=fun W R N E P x2 x3 x6 x45 h=>
aIg true x45 (
pFld (some 5) x3 fun t100=>
lLd (some false) (some 1) t100 h fun t101 _=>
pBin Try.prog .neq 43 true t101 (.sc (.int .u64 0)) fun t103=>
n55 W R N E P x2 x3 x6 x45 t103 h) (
n55 W R N E P x2 x3 x6 x45 noA h)
def n57:N3:=fun W R N E P x2 x3 x6 h=>
pFld (some 4) x3 fun t104=>
lLd (some false) (some 1) t104 h fun t105 _=>
pUn .not t105 fun t107=>
n56 W R N E P x2 x3 x6 t107 h
def n58:N4:=fun W R N E P x2 x3 x6 x32 h=>
aIf x32 (
n49 W R N E P x2 x3 x32 h) (
n57 W R N E P x2 x3 x6 h)
def n59:N5:=fun W R N E P x2 x3 x6 x37 x40 h=>
pPick x37 x40 (.sc (.bool false)) fun t108=>
n58 W R N E P x2 x3 x6 t108 h
def n60:N4:=fun W R N E P x2 x3 x6 x37 h=>
aIg true x37 (
pFld (some 5) x3 fun t109=>
lLd (some false) (some 1) t109 h fun t110 _=>
pBin Try.prog .eql 43 true t110 (.sc (.int .u64 0)) fun t112=>
n59 W R N E P x2 x3 x6 x37 t112 h) (
n59 W R N E P x2 x3 x6 x37 noA h)
def n61:N3:=fun W R N E P x2 x3 x6 h=>
pFld (some 4) x3 fun t113=>
lLd (some false) (some 1) t113 h fun t114 _=>
n60 W R N E P x2 x3 x6 t114 h
def n62:N4:=fun W R N E P x2 x3 x6 x32 h=>
aIf x32 (
n49 W R N E P x2 x3 x32 h) (
n61 W R N E P x2 x3 x6 h)
def n63:N4:=fun W R N E P x2 x3 x5 x6 h=>
pUn .not x5 fun t116=>
n62 W R N E P x2 x3 x6 t116 h
def n64:N5:=fun W R N E P x2 x3 x5 x6 x31 h=>
aIf x31 (
n63 W R N E P x2 x3 x5 (.sc (.int .u64 18446744073709551615)) h) (
n63 W R N E P x2 x3 x5 x6 h)
def n65:N4:=fun W R N E P x2 x3 x5 x6 h=>
pFld (some 1) x2 fun t117=>
lLd (some false) (some 1) t117 h fun t118 _=>
pBin Try.prog .eql 3 true t118 (.sc (.int .i64 64)) fun t120=>
n64 W R N E P x2 x3 x5 x6 t120 h
def n66:N3:=fun W R N E P x2 x3 x5 h=>
pFld (some 1) x2 fun t121=>
lLd (some false) (some 1) t121 h fun t122 _=>
pBin Try.prog .shl 43 true (.sc (.int .u64 1)) t122 fun t124=>
pBin Try.prog .sub 43 true t124 (.sc (.int .u64 1)) fun t125=>
n65 W R N E P x2 x3 x5 t125 h
def n67:N4:=fun W R N E P x2 x3 x20 x23 h=>
pPick x20 (.sc (.bool true)) x23 fun t126=>
n66 W R N E P x2 x3 t126 h
def n68:N3:=fun W R N E P x2 x3 x20 h=>
aIg false x20 (
pFld (some 0) x3 fun t127=>
lLd (some false) (some 1) t127 h fun t128 _=>
pBin Try.prog .eql 3 true t128 (.sc (.int .i64 3)) fun t130=>
n67 W R N E P x2 x3 x20 t130 h) (
n67 W R N E P x2 x3 x20 noA h)
def n69:N4:=fun W R N E P x2 x3 x15 x18 h=>
pPick x15 (.sc (.bool true)) x18 fun t131=>
n68 W R N E P x2 x3 t131 h
def n70:N3:=fun W R N E P x2 x3 x15 h=>
aIg false x15 (
pFld (some 0) x3 fun t132=>
lLd (some false) (some 1) t132 h fun t133 _=>
pBin Try.prog .eql 3 true t133 (.sc (.int .i64 2)) fun t135=>
n69 W R N E P x2 x3 x15 t135 h) (
n69 W R N E P x2 x3 x15 noA h)
def n71:N2:=fun W R N E P x2 x3 h=>
pFld (some 0) x3 fun t136=>
lLd (some false) (some 1) t136 h fun t137 _=>
pBin Try.prog .eql 3 true t137 (.sc (.int .i64 1)) fun t139=>
n70 W R N E P x2 x3 t139 h
def n72:N2:=fun W R N E P x0 x1 h=>
eBox 3 24 x0 h fun t140 h141=>
eBox 7 45 x1 h141 fun t142 h143=>
n71 W R N E P t140 t142 h143
theorem callsN{x0 x1:AV}{h:AH}{M:WK}{R:RK}(hp:n72 (fun id=>M id\/h.next<=id) (retV Try.prog [.tmp 4] R) (retV Try.prog [.tmp 4] R) (fun _ _ _=>False) (fun v h=>R (.pan v) h) x0 x1 h):ACalls Try.prog 40 [x0,x1] h M R:=
 fin (n:=142) (pl:=[(1,⟨[(none,(fr 0 4)),(some (3,false),(fr 4 3)),(none,(fr 7 2)),(some (8,false),(fr 9 3)),(none,(fr 12 2))],false,[],[]⟩),(6,⟨[(none,(fr 0 3)),(some (2,true),(fr 3 3)),(none,(fr 6 2))],false,[],[]⟩),(7,⟨[(none,(fr 0 4)),(some (3,true),(fr 4 4)),(some (7,false),(fr 8 3)),(some (3,true),(fr 11 1)),(none,(fr 12 2))],false,[],[]⟩),(11,⟨[(none,(fr 0 4)),(some (3,true),(fr 4 3)),(none,(fr 7 2))],false,[],[]⟩),(12,⟨[(none,(fr 0 4)),(some (3,true),(fr 4 3)),(none,(fr 7 2))],false,[],[]⟩),(24,⟨[(none,(fr 0 3)),(some (2,false),(fr 3 4)),(none,(fr 7 1))],false,[],[]⟩),(27,⟨[(none,(fr 0 4)),(some (3,true),(fr 4 4)),(some (7,false),(fr 8 5)),(some (3,true),(fr 13 1)),(none,(fr 14 1))],false,[],[]⟩)]) (rs:=[.tmp 4]) (L:=rs) (fun c=>(a2 n72 0 1 c)) Try.mixed Try.func40 (fun c=>
(sq (a2 n72 0 1 c)
(sn
(sq (a3 n66 2 3 5 c)
(sn
(sn
(sq (a2 n38 2 3 c)
(sn
(sn
(sn
(sn
(sn
(sl (a0 n1 c))
(sq (a1 n10 3 c)
(bk 3 (lp [3,128,129,130] rs [(3,[])] (a4 n9 3 128 129 130 c) g1_ (fun i vs h=>if i=3 then n1 c.W c.R c.N c.E c.P h else c.E i vs h) (.b (.t .o)) fun c=>
(sq (a4 n8 3 128 129 130 c)
(sn
(sn
(sm (a4 n2 3 128 129 130 c))
(bk 4 (sq (a4 n6 3 128 129 130 c)
(sq (a6 n5 3 10 11 128 129 130 c)
(cd (a5 n4 3 128 129 130 140 c) (sl (a0 n3 c)) tr)))))
(cd (a5 n7 3 128 129 130 131 c) tr tr)))))))
(sn
(cd (a2 n12 3 126 c) (sl (a0 n11 c)) tr)
(gr (gn (a2 n17 2 3 c) (gx (a3 n16 2 3 115 c) (gx (a4 n15 2 3 115 119 c) (gx (a4 n14 3 115 119 124 c) (gl (a3 n13 3 115 125 c)))))))))
(sq (a2 n28 2 3 c)
(bk 1 (lp [2,3,97,98,99] rs [(1,[2,3])] (a5 n27 2 3 97 98 99 c) g2_ (fun i vs h=>if i=1 then n17 c.W c.R c.N c.E c.P (vs.getD 0 noA) (vs.getD 1 noA) h else c.E i vs h) (.b (.t .o)) fun c=>
(sq (a5 n26 2 3 97 98 99 c)
(sn
(sn
(sm (a5 n18 2 3 97 98 99 c))
(bk 2 (sq (a5 n24 2 3 97 98 99 c)
(sn
(cd (a6 n20 2 3 97 98 99 110 c) (sl (a0 n19 c)) tr)
(gr (gn (a6 n23 2 3 9 97 98 99 c) (gx (a7 n22 2 3 9 97 98 99 105 c) (gl (a7 n21 2 3 97 98 99 105 109 c)))))))))
(cd (a6 n25 2 3 97 98 99 100 c) tr tr)))))))
(sq (a3 n31 2 3 7 c)
(cd (a3 n30 2 3 95 c) (sl (a0 n29 c)) tr)))
(sq (a3 n37 2 3 7 c)
(cd (a4 n36 2 3 7 85 c) (sq (a2 n35 2 3 c)
(sq (a3 n34 2 3 7 c)
(cd (a4 n33 2 3 7 90 c) (sl (a0 n32 c)) tr))) tr))))
(bk 0 (sn
(cd (a3 n49 2 3 32 c) (sl (a0 n39 c)) (sn
(cd (a3 n41 2 3 66 c) (sl (a0 n40 c)) tr)
(sn
(cd (a3 n45 2 3 66 c) tr (gr (gn (a2 n44 2 3 c) (gx (a3 n43 2 3 78 c) (gl (a4 n42 2 3 78 81 c))))))
(gr (gn (a2 n48 2 3 c) (gx (a3 n47 2 3 70 c) (gl (a4 n46 2 3 70 73 c))))))))
(sq (a4 n63 2 3 5 6 c)
(cd (a4 n62 2 3 6 32 c) tr (sn
(cd (a4 n58 2 3 6 32 c) tr (sn
(cd (a4 n52 2 3 6 32 c) tr (sq (a3 n51 2 3 6 c)
(cd (a3 n50 2 3 32 c) tr tr)))
(gr (gn (a3 n57 2 3 6 c) (gx (a4 n56 2 3 6 45 c) (gx (a5 n55 2 3 6 45 49 c) (gx (a6 n54 2 3 6 45 49 52 c) (gl (a5 n53 2 3 6 45 53 c)))))))))
(gr (gn (a3 n61 2 3 6 c) (gx (a4 n60 2 3 6 37 c) (gl (a5 n59 2 3 6 37 40 c)))))))))))
(sq (a4 n65 2 3 5 6 c)
(cd (a5 n64 2 3 5 6 31 c) tr tr))))
(gr (gn (a2 n71 2 3 c) (gx (a3 n70 2 3 15 c) (gn (a4 n69 2 3 15 18 c) (gx (a3 n68 2 3 20 c) (gl (a4 n67 2 3 20 23 c)))))))))) hp
attribute [simp] n1 n2 n3 n4 n5 n6 n7 n8 n10 n11 n12 n13 n14 n15 n16 n17 n18 n19 n20 n21 n22 n23 n24 n25 n26 n28 n29 n30 n31 n32 n33 n34 n35 n36 n37 n38 n39 n40 n41 n42 n43 n44 n45 n46 n47 n48 n49 n50 n51 n52 n53 n54 n55 n56 n57 n58 n59 n60 n61 n62 n63 n64 n65 n66 n67 n68 n69 n70 n71 n72
end F40
namespace F41
abbrev rs:List Nat:=[2]
def n1:N1:=fun W R _ _ P x1 h=>
pFld (some 1) x1 fun t1=>
lLd (some false) (some 1) t1 h fun t2 _=>
aCall Try.prog W 59 [t2] h (fun t4 h5=>
R [t4] h5) P
def n2:N0:=fun _ R _ _ _ h=>
R [(.sc (.int .i64 0))] h
def n3:N2:=fun W R N E P x1 x5 h=>
aIf x5 (
n2 W R N E P h) (
n1 W R N E P x1 h)
def n4:N1:=fun W R N E P x1 h=>
pFld (some 0) x1 fun t6=>
lLd (some false) (some 1) t6 h fun t7 _=>
pBin Try.prog .neq 3 true t7 (.sc (.int .i64 1)) fun t9=>
n3 W R N E P x1 t9 h
def n5:N1:=fun W R N E P x0 h=>
eBox 7 45 x0 h fun t10 h11=>
n4 W R N E P t10 h11
theorem callsN{x0:AV}{h:AH}{M:WK}{R:RK}(hp:n5 (fun id=>M id\/h.next<=id) (retV Try.prog [.tmp 2] R) (retV Try.prog [.tmp 2] R) (fun _ _ _=>False) (fun v h=>R (.pan v) h) x0 h):ACalls Try.prog 41 [x0] h M R:=
 fin (n:=9) (pl:=[]) (rs:=[.tmp 2]) (L:=rs) (fun c=>(a1 n5 0 c)) Try.mixed Try.func41 (fun c=>
(sq (a1 n5 0 c)
(sn
(sl (a1 n1 1 c))
(sq (a1 n4 1 c)
(cd (a2 n3 1 5 c) (sl (a0 n2 c)) tr))))) hp
attribute [simp] n1 n2 n3 n4 n5
end F41
namespace F19
abbrev rs:List Nat:=[2,3]
def n1:N0:=fun _ R _ _ _ h=>
R [(.sc (.int .i64 0)),(.sc (.int .i64 0))] h
def n2:N3:=fun _ _ N _ _ x1 x4 x5 h=>
pBin Try.prog .add 3 true x5 (.sc (.int .i64 1)) fun t1=>
N [x1,x4,t1] h
def n3:N1:=fun _ R _ _ _ x5 h=>
R [x5,(.sc (.int .i64 116))] h
def n4:N4:=fun W R N E P x1 x4 x5 x59 h=>
aIf x59 (
n3 W R N E P x5 h) (
n2 W R N E P x1 x4 x5 h)
def n5:N3:=fun W R N E P x1 x4 x5 h=>
pBin Try.prog .gtr 3 true x4 (.sc (.int .i64 36)) fun t2=>
n4 W R N E P x1 x4 x5 t2 h
def n6:N3:=fun W R N E P x1 x4 x5 h=>
pFld (some 2) x1 fun t3=>
lLd (some false) (some 1) t3 h fun t4 _=>
pIxA (some (7,none)) t4 x5 fun t6=>
lLd (some true) (some 7) t6 h fun t7 _=>
aCall Try.prog W 33 [t7] h (fun t9 h10=>
pBin Try.prog .add 3 false x4 t9 fun t11=>
n5 W R N E P x1 t11 x5 h10) P
def n7:N2:=fun _ R _ _ _ x5 x6 h=>
R [x5,x6] h
def n8:N5:=fun W R N E P x1 x4 x5 x6 x47 h=>
aIf x47 (
n7 W R N E P x5 x6 h) (
n6 W R N E P x1 x4 x5 h)
def n9:N4:=fun W R N E P x1 x4 x5 x6 h=>
pBin Try.prog .neq 3 true x6 (.sc (.int .i64 0)) fun t12=>
n8 W R N E P x1 x4 x5 x6 t12 h
def n10:N3:=fun W R N E P x1 x4 x5 h=>
pFld (some 2) x1 fun t13=>
lLd (some false) (some 1) t13 h fun t14 _=>
pIxA (some (7,none)) t14 x5 fun t16=>
lLd (some true) (some 7) t16 h fun t17 _=>
pFld (some 0) x1 fun t19=>
lLd (some false) (some 1) t19 h fun t20 _=>
pFld (some 1) x1 fun t22=>
lLd (some false) (some 1) t22 h fun t23 _=>
aCall Try.prog noW 32 [t17,t20,t23] h (fun t25 h26=>
n9 W R N E P x1 x4 x5 t25 h26) P
def n11:N4:=fun W R N E P x1 x4 x5 x33 h=>
aIf x33 (
n10 W R N E P x1 x4 x5 h) (
E 0 [] h)
def n12:N3:=fun W R N E P x1 x4 x5 h=>
pFld (some 2) x1 fun t27=>
lLd (some false) (some 1) t27 h fun t28 _=>
(strArg t28=false)/\pLen t28 fun t30=>
pBin Try.prog .lss 3 false x5 t30 fun t31=>
n11 W R N E P x1 x4 x5 t31 h
def g1_:GK:=fun W R N E P N' vs h=>n12 W R N' (fun(i:Nat) (vs:List AV) (h:AH)=>if i=0 then n1 W R N E P h else E i vs h) P (vs.getD 0 noA) (vs.getD 1 noA) (vs.getD 2 noA) h
def n13:N3:=fun W R N E P x1 x4 x5 h=>
vLoop (g1_ W R N E P) [x1,x4,x5] h
def n14:N2:=fun W R N E P x1 x4 h=>
n13 W R N E P x1 x4 (.sc (.int .i64 0)) h
def n15:N1:=fun W R N E P x1 h=>
n14 W R N E P x1 (.sc (.int .i64 0)) h
def n16:N0:=fun _ R _ _ _ h=>
R [(.sc (.int .i64 0)),(.sc (.int .i64 115))] h
def n17:N2:=fun W R N E P x1 x28 h=>
aIf x28 (
n16 W R N E P h) (
n15 W R N E P x1 h)
def n18:N1:=fun W R N E P x1 h=>
pFld (some 2) x1 fun t32=>
lLd (some false) (some 1) t32 h fun t33 _=>
(strArg t33=false)/\pLen t33 fun t35=>
pBin Try.prog .gtr 3 true t35 (.sc (.int .i64 4096)) fun t36=>
n17 W R N E P x1 t36 h
def n19:N0:=fun _ R _ _ _ h=>
R [(.sc (.int .i64 0)),(.sc (.int .i64 2))] h
def n20:N2:=fun W R N E P x1 x24 h=>
aIf x24 (
n19 W R N E P h) (
n18 W R N E P x1 h)
def n21:N3:=fun W R N E P x1 x20 x23 h=>
pPick x20 (.sc (.bool true)) x23 fun t37=>
n20 W R N E P x1 t37 h
def n22:N2:=fun W R N E P x1 x20 h=>
aIg false x20 (
pFld (some 1) x1 fun t38=>
lLd (some false) (some 1) t38 h fun t39 _=>
pBin Try.prog .gtr 3 true t39 (.sc (.int .i64 64)) fun t41=>
n21 W R N E P x1 x20 t41 h) (
n21 W R N E P x1 x20 noA h)
def n23:N3:=fun W R N E P x1 x15 x18 h=>
pPick x15 (.sc (.bool true)) x18 fun t42=>
n22 W R N E P x1 t42 h
def n24:N2:=fun W R N E P x1 x15 h=>
aIg false x15 (
pFld (some 1) x1 fun t43=>
lLd (some false) (some 1) t43 h fun t44 _=>
pBin Try.prog .lss 3 true t44 (.sc (.int .i64 0)) fun t46=>
n23 W R N E P x1 x15 t46 h) (
n23 W R N E P x1 x15 noA h)
def n25:N3:=fun W R N E P x1 x10 x13 h=>
pPick x10 (.sc (.bool true)) x13 fun t47=>
n24 W R N E P x1 t47 h
def n26:N2:=fun W R N E P x1 x10 h=>
aIg false x10 (
pFld (some 0) x1 fun t48=>
lLd (some false) (some 1) t48 h fun t49 _=>
pBin Try.prog .gtr 3 true t49 (.sc (.int .i64 64)) fun t51=>
n25 W R N E P x1 x10 t51 h) (
n25 W R N E P x1 x10 noA h)
def n27:N1:=fun W R N E P x1 h=>
pFld (some 0) x1 fun t52=>
lLd (some false) (some 1) t52 h fun t53 _=>
pBin Try.prog .lss 3 true t53 (.sc (.int .i64 0)) fun t55=>
n26 W R N E P x1 t55 h
def n28:N1:=fun W R N E P x0 h=>
eBox 3 24 x0 h fun t56 h57=>
n27 W R N E P t56 h57
theorem callsN{x0:AV}{h:AH}{M:WK}{R:RK}(hp:n28 (fun id=>M id\/h.next<=id) (retV Try.prog [.tmp 2,.tmp 3] R) (retV Try.prog [.tmp 2,.tmp 3] R) (fun _ _ _=>False) (fun v h=>R (.pan v) h) x0 h):ACalls Try.prog 19 [x0] h M R:=
 fin (n:=61) (pl:=[(1,⟨[(none,(fr 0 4)),(some (3,false),(fr 4 3)),(none,(fr 7 2)),(some (8,false),(fr 9 3)),(none,(fr 12 2)),(some (13,false),(fr 14 3)),(none,(fr 17 1))],false,[],[]⟩),(9,⟨[(none,(fr 0 11))],false,[],[9]⟩)]) (rs:=[.tmp 2,.tmp 3]) (L:=rs) (fun c=>(a1 n28 0 c)) Try.mixed Try.func19 (fun c=>
(sq (a1 n28 0 c)
(sn
(sn
(sq (a1 n15 1 c)
(sn
(sl (a0 n1 c))
(sq (a2 n14 1 4 c)
(bk 0 (lp [1,4,5] rs [(0,[])] (a3 n13 1 4 5 c) g1_ (fun i vs h=>if i=0 then n1 c.W c.R c.N c.E c.P h else c.E i vs h) (.b (.t .o)) fun c=>
(sn
(sn
(sm (a3 n2 1 4 5 c))
(bk 1 (sn
(sq (a3 n6 1 4 5 c)
(sq (a3 n5 1 4 5 c)
(cd (a4 n4 1 4 5 59 c) (sl (a1 n3 5 c)) tr)))
(sn
(sq (a4 n9 1 4 5 6 c)
(cd (a5 n8 1 4 5 6 47 c) (sl (a2 n7 5 6 c)) tr))
(gr (gl (a3 n10 1 4 5 c)))))))
(sq (a3 n12 1 4 5 c)
(cd (a4 n11 1 4 5 33 c) tr tr))))))))
(sq (a1 n18 1 c)
(cd (a2 n17 1 28 c) (sl (a0 n16 c)) tr)))
(sn
(cd (a2 n20 1 24 c) (sl (a0 n19 c)) tr)
(gr (gn (a1 n27 1 c) (gx (a2 n26 1 10 c) (gn (a3 n25 1 10 13 c) (gx (a2 n24 1 15 c) (gn (a3 n23 1 15 18 c) (gx (a2 n22 1 20 c) (gl (a3 n21 1 20 23 c))))))))))))) hp
attribute [simp] n1 n2 n3 n4 n5 n6 n7 n8 n9 n10 n11 n12 n14 n15 n16 n17 n18 n19 n20 n21 n22 n23 n24 n25 n26 n27 n28
end F19
namespace F32
abbrev rs:List Nat:=[6]
def n1:N0:=fun _ R _ _ _ h=>
R [(.sc (.int .i64 0))] h
def n2:N3:=fun _ _ N _ _ x3 x8 x10 h=>
pBin Try.prog .add 3 true x10 (.sc (.int .i64 1)) fun t1=>
N [x3,x8,t1] h
def n3:N4:=fun _ _ N _ _ x3 x8 x10 x11 h=>
pBin Try.prog .add 3 true x11 (.sc (.int .i64 1)) fun t2=>
N [x3,x8,x10,t2] h
def n4:N0:=fun _ R _ _ _ h=>
R [(.sc (.int .i64 113))] h
def n5:N5:=fun W R N E P x3 x8 x10 x11 x85 h=>
aIf x85 (
n4 W R N E P h) (
n3 W R N E P x3 x8 x10 x11 h)
def n6:N4:=fun W R N E P x3 x8 x10 x11 h=>
pFld (some 2) x3 fun t3=>
lLd (some false) (some 1) t3 h fun t4 _=>
pIxA (some (1,none)) t4 x10 fun t6=>
lLd (some false) (some 1) t6 h fun t7 _=>
pFld (some 2) x3 fun t9=>
lLd (some false) (some 1) t9 h fun t10 _=>
pIxA (some (1,none)) t10 x11 fun t12=>
lLd (some false) (some 1) t12 h fun t13 _=>
pBin Try.prog .eql 3 false t7 t13 fun t15=>
n5 W R N E P x3 x8 x10 x11 t15 h
def n7:N5:=fun W R N E P x3 x8 x10 x11 x72 h=>
aIf x72 (
n6 W R N E P x3 x8 x10 x11 h) (
E 4 [x3,x8,x10] h)
def n8:N4:=fun W R N E P x3 x8 x10 x11 h=>
pBin Try.prog .lss 3 false x11 x10 fun t16=>
n7 W R N E P x3 x8 x10 x11 t16 h
def g2_:GK:=fun W R N E P N' vs h=>n8 W R N' (fun(i:Nat) (vs:List AV) (h:AH)=>if i=4 then n2 W R N E P (vs.getD 0 noA) (vs.getD 1 noA) (vs.getD 2 noA) h else if i=3 then n2 W R N E P (vs.getD 0 noA) (vs.getD 1 noA) (vs.getD 2 noA) h else E i vs h) P (vs.getD 0 noA) (vs.getD 1 noA) (vs.getD 2 noA) (vs.getD 3 noA) h
def n9:N4:=fun W R N E P x3 x8 x10 x11 h=>
vLoop (g2_ W R N E P) [x3,x8,x10,x11] h
def n10:N3:=fun W R N E P x3 x8 x10 h=>
n9 W R N E P x3 x8 x10 (.sc (.int .i64 0)) h
def n11:N4:=fun W R N E P x3 x8 x10 x67 h=>
aIf x67 (
n10 W R N E P x3 x8 x10 h) (
E 2 [] h)
def n12:N3:=fun W R N E P x3 x8 x10 h=>
pBin Try.prog .lss 3 false x10 x8 fun t17=>
n11 W R N E P x3 x8 x10 t17 h
def g1_:GK:=fun W R N E P N' vs h=>n12 W R N' (fun(i:Nat) (vs:List AV) (h:AH)=>if i=2 then n1 W R N E P h else E i vs h) P (vs.getD 0 noA) (vs.getD 1 noA) (vs.getD 2 noA) h
def n13:N3:=fun W R N E P x3 x8 x10 h=>
vLoop (g1_ W R N E P) [x3,x8,x10] h
def n14:N2:=fun W R N E P x3 x8 h=>
n13 W R N E P x3 x8 (.sc (.int .i64 0)) h
def n15:N0:=fun _ R _ _ _ h=>
R [(.sc (.int .i64 112))] h
def n16:N3:=fun W R N E P x3 x8 x64 h=>
aIf x64 (
n15 W R N E P h) (
n14 W R N E P x3 x8 h)
def n17:N4:=fun W R N E P x3 x8 x54 x63 h=>
pPick x54 x63 (.sc (.bool false)) fun t18=>
n16 W R N E P x3 x8 t18 h
def n18:N5:=fun W R N E P x3 x8 x54 x58 x62 h=>
aIg true x54 (
pPick x58 (.sc (.bool true)) x62 fun t19=>
n17 W R N E P x3 x8 x54 t19 h) (
n17 W R N E P x3 x8 x54 noA h)
def n19:N5:=fun W R N E P x2 x3 x8 x54 x58 h=>
aIg false x58 (
pFld (some 3) x3 fun t20=>
lLd (some false) (some 1) t20 h fun t21 _=>
pBin Try.prog .geq 3 false t21 x2 fun t23=>
n18 W R N E P x3 x8 x54 x58 t23 h) (
n18 W R N E P x3 x8 x54 x58 noA h)
def n20:N4:=fun W R N E P x2 x3 x8 x54 h=>
aIg true x54 (
pFld (some 3) x3 fun t24=>
lLd (some false) (some 1) t24 h fun t25 _=>
pBin Try.prog .lss 3 true t25 (.sc (.int .i64 0)) fun t27=>
n19 W R N E P x2 x3 x8 x54 t27 h) (
n19 W R N E P x2 x3 x8 x54 noA h)
def n21:N3:=fun W R N E P x2 x3 x8 h=>
pFld (some 0) x3 fun t28=>
lLd (some false) (some 1) t28 h fun t29 _=>
pBin Try.prog .eql 3 true t29 (.sc (.int .i64 2)) fun t31=>
n20 W R N E P x2 x3 x8 t31 h
def n22:N5:=fun _ _ N _ _ x1 x2 x3 x8 x9 h=>
pBin Try.prog .add 3 true x9 (.sc (.int .i64 1)) fun t32=>
N [x1,x2,x3,x8,t32] h
def n23:N0:=fun _ R _ _ _ h=>
R [(.sc (.int .i64 112))] h
def n24:N6:=fun W R N E P x1 x2 x3 x8 x9 x50 h=>
aIf x50 (
n23 W R N E P h) (
n22 W R N E P x1 x2 x3 x8 x9 h)
def n25:N7:=fun W R N E P x1 x2 x3 x8 x9 x42 x49 h=>
pPick x42 (.sc (.bool true)) x49 fun t33=>
n24 W R N E P x1 x2 x3 x8 x9 t33 h
def n26:N6:=fun W R N E P x1 x2 x3 x8 x9 x42 h=>
aIg false x42 (
pFld (some 2) x3 fun t34=>
lLd (some false) (some 1) t34 h fun t35 _=>
pIxA (some (1,none)) t35 x9 fun t37=>
lLd (some false) (some 1) t37 h fun t38 _=>
pBin Try.prog .geq 3 false t38 x1 fun t40=>
n25 W R N E P x1 x2 x3 x8 x9 x42 t40 h) (
n25 W R N E P x1 x2 x3 x8 x9 x42 noA h)
def n27:N5:=fun W R N E P x1 x2 x3 x8 x9 h=>
pFld (some 2) x3 fun t41=>
lLd (some false) (some 1) t41 h fun t42 _=>
pIxA (some (1,none)) t42 x9 fun t44=>
lLd (some false) (some 1) t44 h fun t45 _=>
pBin Try.prog .lss 3 true t45 (.sc (.int .i64 0)) fun t47=>
n26 W R N E P x1 x2 x3 x8 x9 t47 h
def n28:N6:=fun W R N E P x1 x2 x3 x8 x9 x33 h=>
aIf x33 (
n27 W R N E P x1 x2 x3 x8 x9 h) (
E 0 [x2,x3,x8] h)
def n29:N5:=fun W R N E P x1 x2 x3 x8 x9 h=>
pBin Try.prog .lss 3 false x9 x8 fun t48=>
n28 W R N E P x1 x2 x3 x8 x9 t48 h
def g3_:GK:=fun W R N E P N' vs h=>n29 W R N' (fun(i:Nat) (vs:List AV) (h:AH)=>if i=0 then n21 W R N E P (vs.getD 0 noA) (vs.getD 1 noA) (vs.getD 2 noA) h else E i vs h) P (vs.getD 0 noA) (vs.getD 1 noA) (vs.getD 2 noA) (vs.getD 3 noA) (vs.getD 4 noA) h
def n30:N5:=fun W R N E P x1 x2 x3 x8 x9 h=>
vLoop (g3_ W R N E P) [x1,x2,x3,x8,x9] h
def n31:N4:=fun W R N E P x1 x2 x3 x8 h=>
n30 W R N E P x1 x2 x3 x8 (.sc (.int .i64 0)) h
def n32:N0:=fun _ R _ _ _ h=>
R [(.sc (.int .i64 111))] h
def n33:N5:=fun W R N E P x1 x2 x3 x8 x30 h=>
aIf x30 (
n32 W R N E P h) (
n31 W R N E P x1 x2 x3 x8 h)
def n34:N4:=fun W R N E P x1 x2 x3 x8 h=>
pFld (some 2) x3 fun t49=>
lLd (some false) (some 1) t49 h fun t50 _=>
(strArg t50=false)/\pLen t50 fun t52=>
pBin Try.prog .neq 3 false t52 x8 fun t53=>
n33 W R N E P x1 x2 x3 x8 t53 h
def n35:N0:=fun _ R _ _ _ h=>
R [(.sc (.int .i64 80))] h
def n36:N5:=fun W R N E P x1 x2 x3 x8 x25 h=>
aIf x25 (
n35 W R N E P h) (
n34 W R N E P x1 x2 x3 x8 h)
def n37:N4:=fun W R N E P x1 x2 x3 x8 h=>
pBin Try.prog .eql 3 true x8 (.sc (.int .i64 0)) fun t54=>
n36 W R N E P x1 x2 x3 x8 t54 h
def n38:N3:=fun W R N E P x1 x2 x3 h=>
pFld (some 1) x3 fun t55=>
lLd (some false) (some 1) t55 h fun t56 _=>
aCall Try.prog W 51 [t56] h (fun t58 h59=>
n37 W R N E P x1 x2 x3 t58 h59) P
def n39:N5:=fun W R N E P x1 x2 x3 x8 x20 h=>
aIf x20 (
n38 W R N E P x1 x2 x3 h) (
n34 W R N E P x1 x2 x3 x8 h)
def n40:N4:=fun W R N E P x1 x2 x3 x8 h=>
pFld (some 0) x3 fun t60=>
lLd (some false) (some 1) t60 h fun t61 _=>
pBin Try.prog .eql 3 true t61 (.sc (.int .i64 1)) fun t63=>
n39 W R N E P x1 x2 x3 x8 t63 h
def n41:N3:=fun W R N E P x1 x2 x3 h=>
n40 W R N E P x1 x2 x3 (.sc (.int .i64 1)) h
def n42:N1:=fun _ R _ _ _ x7 h=>
R [x7] h
def n43:N5:=fun W R N E P x1 x2 x3 x7 x16 h=>
aIf x16 (
n42 W R N E P x7 h) (
n41 W R N E P x1 x2 x3 h)
def n44:N4:=fun W R N E P x1 x2 x3 x7 h=>
pBin Try.prog .neq 3 true x7 (.sc (.int .i64 0)) fun t64=>
n43 W R N E P x1 x2 x3 x7 t64 h
def n45:N3:=fun W R N E P x1 x2 x3 h=>
lLd (some true) (some 7) x3 h fun t65 _=>
aCall Try.prog W 50 [t65,x2] h (fun t67 h68=>
n44 W R N E P x1 x2 x3 t67 h68) P
def n46:N3:=fun W R N E P x0 x1 x2 h=>
eBox 7 45 x0 h fun t69 h70=>
n45 W R N E P x1 x2 t69 h70
theorem callsN{x0 x1 x2:AV}{h:AH}{M:WK}{R:RK}(hp:n46 (fun id=>M id\/h.next<=id) (retV Try.prog [.tmp 6] R) (retV Try.prog [.tmp 6] R) (fun _ _ _=>False) (fun v h=>R (.pan v) h) x0 x1 x2 h):ACalls Try.prog 32 [x0,x1,x2] h M R:=
 fin (n:=86) (pl:=[(14,⟨[(none,(fr 0 7)),(some (6,false),(fr 7 7)),(none,(fr 14 1))],false,[],[]⟩),(16,⟨[(none,(fr 0 4)),(some (3,true),(fr 4 4)),(some (7,false),(fr 8 4)),(some (3,true),(fr 12 1)),(none,(fr 13 1))],false,[],[]⟩),(24,⟨[(none,(fr 0 11))],false,[],[]⟩)]) (rs:=[.tmp 6]) (L:=rs) (fun c=>(a3 n46 0 1 2 c)) Try.mixed Try.func32 (fun c=>
(sq (a3 n46 0 1 2 c)
(sn
(sq (a3 n41 1 2 3 c)
(sn
(sn
(sn
(sn
(sn
(sl (a0 n1 c))
(sq (a2 n14 3 8 c)
(bk 2 (lp [3,8,10] rs [(2,[])] (a3 n13 3 8 10 c) g1_ (fun i vs h=>if i=2 then n1 c.W c.R c.N c.E c.P h else c.E i vs h) (.b (.t .o)) fun c=>
(sn
(sn
(sm (a3 n2 3 8 10 c))
(bk 3 (sq (a3 n10 3 8 10 c)
(bk 4 (lp [3,8,10,11] rs [(4,[3,8,10]),(3,[3,8,10]),(2,[])] (a4 n9 3 8 10 11 c) g2_ (fun i vs h=>if i=4 then n2 c.W c.R c.N c.E c.P (vs.getD 0 noA) (vs.getD 1 noA) (vs.getD 2 noA) h else if i=3 then n2 c.W c.R c.N c.E c.P (vs.getD 0 noA) (vs.getD 1 noA) (vs.getD 2 noA) h else c.E i vs h) (.b (.b (.t .o))) fun c=>
(sn
(sn
(sm (a4 n3 3 8 10 11 c))
(bk 5 (sq (a4 n6 3 8 10 11 c)
(cd (a5 n5 3 8 10 11 85 c) (sl (a0 n4 c)) tr))))
(sq (a4 n8 3 8 10 11 c)
(cd (a5 n7 3 8 10 11 72 c) tr tr))))))))
(sq (a3 n12 3 8 10 c)
(cd (a4 n11 3 8 10 67 c) tr tr)))))))
(sn
(cd (a3 n16 3 8 64 c) (sl (a0 n15 c)) tr)
(gr (gn (a3 n21 2 3 8 c) (gx (a4 n20 2 3 8 54 c) (gx (a5 n19 2 3 8 54 58 c) (gx (a5 n18 3 8 54 58 62 c) (gl (a4 n17 3 8 54 63 c)))))))))
(sq (a4 n31 1 2 3 8 c)
(bk 0 (lp [1,2,3,8,9] rs [(0,[2,3,8])] (a5 n30 1 2 3 8 9 c) g3_ (fun i vs h=>if i=0 then n21 c.W c.R c.N c.E c.P (vs.getD 0 noA) (vs.getD 1 noA) (vs.getD 2 noA) h else c.E i vs h) (.b (.t .o)) fun c=>
(sn
(sn
(sm (a5 n22 1 2 3 8 9 c))
(bk 1 (sn
(cd (a6 n24 1 2 3 8 9 50 c) (sl (a0 n23 c)) tr)
(gr (gn (a5 n27 1 2 3 8 9 c) (gx (a6 n26 1 2 3 8 9 42 c) (gl (a7 n25 1 2 3 8 9 42 49 c))))))))
(sq (a5 n29 1 2 3 8 9 c)
(cd (a6 n28 1 2 3 8 9 33 c) tr tr)))))))
(sq (a4 n34 1 2 3 8 c)
(cd (a5 n33 1 2 3 8 30 c) (sl (a0 n32 c)) tr)))
(sq (a4 n40 1 2 3 8 c)
(cd (a5 n39 1 2 3 8 20 c) (sq (a3 n38 1 2 3 c)
(sq (a4 n37 1 2 3 8 c)
(cd (a5 n36 1 2 3 8 25 c) (sl (a0 n35 c)) tr))) tr))))
(sq (a3 n45 1 2 3 c)
(sq (a4 n44 1 2 3 7 c)
(cd (a5 n43 1 2 3 7 16 c) (sl (a1 n42 7 c)) tr)))))) hp
attribute [simp] n1 n2 n3 n4 n5 n6 n7 n8 n10 n11 n12 n14 n15 n16 n17 n18 n19 n20 n21 n22 n23 n24 n25 n26 n27 n28 n29 n31 n32 n33 n34 n35 n36 n37 n38 n39 n40 n41 n42 n43 n44 n45 n46
end F32
namespace F33
abbrev rs:List Nat:=[2]
def n1:N0:=fun _ R _ _ _ h=>
R [(.sc (.int .i64 0))] h
def n2:N1:=fun W R _ _ P x1 h=>
pFld (some 1) x1 fun t1=>
lLd (some false) (some 1) t1 h fun t2 _=>
aCall Try.prog W 52 [t2] h (fun t4 h5=>
R [t4] h5) P
def n3:N2:=fun W R N E P x1 x5 h=>
aIf x5 (
n2 W R N E P x1 h) (
n1 W R N E P h)
def n4:N1:=fun W R N E P x1 h=>
pFld (some 0) x1 fun t6=>
lLd (some false) (some 1) t6 h fun t7 _=>
pBin Try.prog .eql 3 true t7 (.sc (.int .i64 1)) fun t9=>
n3 W R N E P x1 t9 h
def n5:N1:=fun W R N E P x0 h=>
eBox 7 45 x0 h fun t10 h11=>
n4 W R N E P t10 h11
theorem callsN{x0:AV}{h:AH}{M:WK}{R:RK}(hp:n5 (fun id=>M id\/h.next<=id) (retV Try.prog [.tmp 2] R) (retV Try.prog [.tmp 2] R) (fun _ _ _=>False) (fun v h=>R (.pan v) h) x0 h):ACalls Try.prog 33 [x0] h M R:=
 fin (n:=9) (pl:=[]) (rs:=[.tmp 2]) (L:=rs) (fun c=>(a1 n5 0 c)) Try.mixed Try.func33 (fun c=>
(sq (a1 n5 0 c)
(sn
(sl (a0 n1 c))
(sq (a1 n4 1 c)
(cd (a2 n3 1 5 c) (sl (a1 n2 1 c)) tr))))) hp
attribute [simp] n1 n2 n3 n4 n5
end F33
namespace F51
abbrev rs:List Nat:=[2]
def n1:N0:=fun _ R _ _ _ h=>
R [(.sc (.int .i64 0))] h
def n2:N0:=fun _ R _ _ _ h=>
R [(.sc (.int .i64 1))] h
def n3:N0:=fun _ R _ _ _ h=>
R [(.sc (.int .i64 2))] h
def n4:N0:=fun _ R _ _ _ h=>
R [(.sc (.int .i64 3))] h
def n5:N1:=fun W R N E P x28 h=>
aIf x28 (
n4 W R N E P h) (
n1 W R N E P h)
def n6:N2:=fun W R N E P x3 x28 h=>
aIf x28 (
n5 W R N E P x28 h) (
pBin Try.prog .eql 9 true x3 (.sc (.string ⟨#[99,115,119,97,112]⟩)) fun t1=>
n5 W R N E P t1 h)
def n7:N1:=fun W R N E P x3 h=>
pBin Try.prog .eql 9 true x3 (.sc (.string ⟨#[99,99,122]⟩)) fun t2=>
n6 W R N E P x3 t2 h
def n8:N2:=fun W R N E P x3 x28 h=>
aIf x28 (
n5 W R N E P x28 h) (
n7 W R N E P x3 h)
def n9:N1:=fun W R N E P x3 h=>
pBin Try.prog .eql 9 true x3 (.sc (.string ⟨#[99,99,120]⟩)) fun t3=>
n8 W R N E P x3 t3 h
def n10:N2:=fun W R N E P x3 x18 h=>
aIf x18 (
n3 W R N E P h) (
n9 W R N E P x3 h)
def n11:N2:=fun W R N E P x3 x18 h=>
aIf x18 (
n10 W R N E P x3 x18 h) (
pBin Try.prog .eql 9 true x3 (.sc (.string ⟨#[105,115,119,97,112,100,103]⟩)) fun t4=>
n10 W R N E P x3 t4 h)
def n12:N1:=fun W R N E P x3 h=>
pBin Try.prog .eql 9 true x3 (.sc (.string ⟨#[105,115,119,97,112]⟩)) fun t5=>
n11 W R N E P x3 t5 h
def n13:N2:=fun W R N E P x3 x18 h=>
aIf x18 (
n10 W R N E P x3 x18 h) (
n12 W R N E P x3 h)
def n14:N1:=fun W R N E P x3 h=>
pBin Try.prog .eql 9 true x3 (.sc (.string ⟨#[115,119,97,112]⟩)) fun t6=>
n13 W R N E P x3 t6 h
def n15:N2:=fun W R N E P x3 x18 h=>
aIf x18 (
n10 W R N E P x3 x18 h) (
n14 W R N E P x3 h)
def n16:N1:=fun W R N E P x3 h=>
pBin Try.prog .eql 9 true x3 (.sc (.string ⟨#[99,115,100,103]⟩)) fun t7=>
n15 W R N E P x3 t7 h
def n17:N2:=fun W R N E P x3 x18 h=>
aIf x18 (
n10 W R N E P x3 x18 h) (
n16 W R N E P x3 h)
def n18:N1:=fun W R N E P x3 h=>
pBin Try.prog .eql 9 true x3 (.sc (.string ⟨#[99,115]⟩)) fun t8=>
n17 W R N E P x3 t8 h
def n19:N2:=fun W R N E P x3 x18 h=>
aIf x18 (
n10 W R N E P x3 x18 h) (
n18 W R N E P x3 h)
def n20:N1:=fun W R N E P x3 h=>
pBin Try.prog .eql 9 true x3 (.sc (.string ⟨#[99,104]⟩)) fun t9=>
n19 W R N E P x3 t9 h
def n21:N2:=fun W R N E P x3 x18 h=>
aIf x18 (
n10 W R N E P x3 x18 h) (
n20 W R N E P x3 h)
def n22:N1:=fun W R N E P x3 h=>
pBin Try.prog .eql 9 true x3 (.sc (.string ⟨#[99,122]⟩)) fun t10=>
n21 W R N E P x3 t10 h
def n23:N2:=fun W R N E P x3 x18 h=>
aIf x18 (
n10 W R N E P x3 x18 h) (
n22 W R N E P x3 h)
def n24:N1:=fun W R N E P x3 h=>
pBin Try.prog .eql 9 true x3 (.sc (.string ⟨#[99,121]⟩)) fun t11=>
n23 W R N E P x3 t11 h
def n25:N2:=fun W R N E P x3 x18 h=>
aIf x18 (
n10 W R N E P x3 x18 h) (
n24 W R N E P x3 h)
def n26:N1:=fun W R N E P x3 h=>
pBin Try.prog .eql 9 true x3 (.sc (.string ⟨#[99,120]⟩)) fun t12=>
n25 W R N E P x3 t12 h
def n27:N2:=fun W R N E P x3 x4 h=>
aIf x4 (
n2 W R N E P h) (
n26 W R N E P x3 h)
def n28:N2:=fun W R N E P x3 x4 h=>
aIf x4 (
n27 W R N E P x3 x4 h) (
pBin Try.prog .eql 9 true x3 (.sc (.string ⟨#[119,100,103]⟩)) fun t13=>
n27 W R N E P x3 t13 h)
def n29:N1:=fun W R N E P x3 h=>
pBin Try.prog .eql 9 true x3 (.sc (.string ⟨#[119]⟩)) fun t14=>
n28 W R N E P x3 t14 h
def n30:N2:=fun W R N E P x3 x4 h=>
aIf x4 (
n27 W R N E P x3 x4 h) (
n29 W R N E P x3 h)
def n31:N1:=fun W R N E P x3 h=>
pBin Try.prog .eql 9 true x3 (.sc (.string ⟨#[118,100,103]⟩)) fun t15=>
n30 W R N E P x3 t15 h
def n32:N2:=fun W R N E P x3 x4 h=>
aIf x4 (
n27 W R N E P x3 x4 h) (
n31 W R N E P x3 h)
def n33:N1:=fun W R N E P x3 h=>
pBin Try.prog .eql 9 true x3 (.sc (.string ⟨#[118]⟩)) fun t16=>
n32 W R N E P x3 t16 h
def n34:N2:=fun W R N E P x3 x4 h=>
aIf x4 (
n27 W R N E P x3 x4 h) (
n33 W R N E P x3 h)
def n35:N1:=fun W R N E P x3 h=>
pBin Try.prog .eql 9 true x3 (.sc (.string ⟨#[116,100,103]⟩)) fun t17=>
n34 W R N E P x3 t17 h
def n36:N2:=fun W R N E P x3 x4 h=>
aIf x4 (
n27 W R N E P x3 x4 h) (
n35 W R N E P x3 h)
def n37:N1:=fun W R N E P x3 h=>
pBin Try.prog .eql 9 true x3 (.sc (.string ⟨#[116]⟩)) fun t18=>
n36 W R N E P x3 t18 h
def n38:N2:=fun W R N E P x3 x4 h=>
aIf x4 (
n27 W R N E P x3 x4 h) (
n37 W R N E P x3 h)
def n39:N1:=fun W R N E P x3 h=>
pBin Try.prog .eql 9 true x3 (.sc (.string ⟨#[115,100,103]⟩)) fun t19=>
n38 W R N E P x3 t19 h
def n40:N2:=fun W R N E P x3 x4 h=>
aIf x4 (
n27 W R N E P x3 x4 h) (
n39 W R N E P x3 h)
def n41:N1:=fun W R N E P x3 h=>
pBin Try.prog .eql 9 true x3 (.sc (.string ⟨#[115]⟩)) fun t20=>
n40 W R N E P x3 t20 h
def n42:N2:=fun W R N E P x3 x4 h=>
aIf x4 (
n27 W R N E P x3 x4 h) (
n41 W R N E P x3 h)
def n43:N1:=fun W R N E P x3 h=>
pBin Try.prog .eql 9 true x3 (.sc (.string ⟨#[104]⟩)) fun t21=>
n42 W R N E P x3 t21 h
def n44:N2:=fun W R N E P x3 x4 h=>
aIf x4 (
n27 W R N E P x3 x4 h) (
n43 W R N E P x3 h)
def n45:N1:=fun W R N E P x3 h=>
pBin Try.prog .eql 9 true x3 (.sc (.string ⟨#[122]⟩)) fun t22=>
n44 W R N E P x3 t22 h
def n46:N2:=fun W R N E P x3 x4 h=>
aIf x4 (
n27 W R N E P x3 x4 h) (
n45 W R N E P x3 h)
def n47:N1:=fun W R N E P x3 h=>
pBin Try.prog .eql 9 true x3 (.sc (.string ⟨#[121]⟩)) fun t23=>
n46 W R N E P x3 t23 h
def n48:N2:=fun W R N E P x3 x4 h=>
aIf x4 (
n27 W R N E P x3 x4 h) (
n47 W R N E P x3 h)
def n49:N1:=fun W R N E P x3 h=>
pBin Try.prog .eql 9 true x3 (.sc (.string ⟨#[120]⟩)) fun t24=>
n48 W R N E P x3 t24 h
def n50:N2:=fun W R N E P x3 x4 h=>
aIf x4 (
n27 W R N E P x3 x4 h) (
n49 W R N E P x3 h)
def n51:N1:=fun W R N E P x3 h=>
pBin Try.prog .eql 9 true x3 (.sc (.string ⟨#[105]⟩)) fun t25=>
n50 W R N E P x3 t25 h
def n52:N1:=fun W R N E P x0 h=>
n51 W R N E P x0 h
def n53:N1:=fun W R N E P x0 h=>
n52 W R N E P x0 h
theorem callsN{x0:AV}{h:AH}{M:WK}{R:RK}(hp:n53 (fun id=>M id\/h.next<=id) (retV Try.prog [.tmp 2] R) (retV Try.prog [.tmp 2] R) (fun _ _ _=>False) (fun v h=>R (.pan v) h) x0 h):ACalls Try.prog 51 [x0] h M R:=
 fin (n:=32) (pl:=[]) (rs:=[.tmp 2]) (L:=rs) (fun c=>(a1 n53 0 c)) Try.mixed Try.func51 (fun c=>
(sq (a1 n53 0 c)
(sn
(sl (a0 n1 c))
(sq (a1 n52 0 c)
(bk 0 (sn
(cd (a2 n27 3 4 c) (sl (a0 n2 c)) (sn
(cd (a2 n10 3 18 c) (sl (a0 n3 c)) (sn
(cd (a1 n5 28 c) (sl (a0 n4 c)) tr)
(sq (a1 n9 3 c)
(cd (a2 n8 3 28 c) tr (sq (a1 n7 3 c)
(cd (a2 n6 3 28 c) tr tr))))))
(sq (a1 n26 3 c)
(cd (a2 n25 3 18 c) tr (sq (a1 n24 3 c)
(cd (a2 n23 3 18 c) tr (sq (a1 n22 3 c)
(cd (a2 n21 3 18 c) tr (sq (a1 n20 3 c)
(cd (a2 n19 3 18 c) tr (sq (a1 n18 3 c)
(cd (a2 n17 3 18 c) tr (sq (a1 n16 3 c)
(cd (a2 n15 3 18 c) tr (sq (a1 n14 3 c)
(cd (a2 n13 3 18 c) tr (sq (a1 n12 3 c)
(cd (a2 n11 3 18 c) tr tr))))))))))))))))))
(sq (a1 n51 3 c)
(cd (a2 n50 3 4 c) tr (sq (a1 n49 3 c)
(cd (a2 n48 3 4 c) tr (sq (a1 n47 3 c)
(cd (a2 n46 3 4 c) tr (sq (a1 n45 3 c)
(cd (a2 n44 3 4 c) tr (sq (a1 n43 3 c)
(cd (a2 n42 3 4 c) tr (sq (a1 n41 3 c)
(cd (a2 n40 3 4 c) tr (sq (a1 n39 3 c)
(cd (a2 n38 3 4 c) tr (sq (a1 n37 3 c)
(cd (a2 n36 3 4 c) tr (sq (a1 n35 3 c)
(cd (a2 n34 3 4 c) tr (sq (a1 n33 3 c)
(cd (a2 n32 3 4 c) tr (sq (a1 n31 3 c)
(cd (a2 n30 3 4 c) tr (sq (a1 n29 3 c)
(cd (a2 n28 3 4 c) tr tr)))))))))))))))))))))))))))))) hp
attribute [simp] n1 n2 n3 n4 n5 n6 n7 n8 n9 n10 n11 n12 n13 n14 n15 n16 n17 n18 n19 n20 n21 n22 n23 n24 n25 n26 n27 n28 n29 n30 n31 n32 n33 n34 n35 n36 n37 n38 n39 n40 n41 n42 n43 n44 n45 n46 n47 n48 n49 n50 n51 n52 n53
end F51
namespace F50
abbrev rs:List Nat:=[4]
def n1:N0:=fun _ R _ _ _ h=>
R [(.sc (.int .i64 0))] h
def n2:N0:=fun _ R _ _ _ h=>
R [(.sc (.int .i64 120))] h
def n3:N1:=fun W R N E P x64 h=>
aIf x64 (
n2 W R N E P h) (
n1 W R N E P h)
def n4:N2:=fun W R N E P x55 x63 h=>
pPick x55 (.sc (.bool true)) x63 fun t1=>
n3 W R N E P t1 h
def n5:N3:=fun W R N E P x55 x59 x62 h=>
aIg false x55 (
pPick x59 x62 (.sc (.bool false)) fun t2=>
n4 W R N E P x55 t2 h) (
n4 W R N E P x55 noA h)
def n6:N3:=fun W R N E P x2 x55 x59 h=>
aIg true x59 (
pFld (some 3) x2 fun t3=>
lLd (some false) (some 1) t3 h fun t4 _=>
pBin Try.prog .neq 3 true t4 (.sc (.int .i64 0)) fun t6=>
n5 W R N E P x55 x59 t6 h) (
n5 W R N E P x55 x59 noA h)
def n7:N2:=fun W R N E P x2 x55 h=>
aIg false x55 (
pFld (some 0) x2 fun t7=>
lLd (some false) (some 1) t7 h fun t8 _=>
pBin Try.prog .neq 3 true t8 (.sc (.int .i64 2)) fun t10=>
n6 W R N E P x2 x55 t10 h) (
n6 W R N E P x2 x55 noA h)
def n8:N3:=fun W R N E P x2 x50 x53 h=>
pPick x50 x53 (.sc (.bool false)) fun t11=>
n7 W R N E P x2 t11 h
def n9:N2:=fun W R N E P x2 x50 h=>
aIg true x50 (
pFld (some 1) x2 fun t12=>
lLd (some false) (some 1) t12 h fun t13 _=>
pBin Try.prog .neq 9 true t13 (.sc (.string ⟨#[]⟩)) fun t15=>
n8 W R N E P x2 x50 t15 h) (
n8 W R N E P x2 x50 noA h)
def n10:N1:=fun W R N E P x2 h=>
pFld (some 0) x2 fun t16=>
lLd (some false) (some 1) t16 h fun t17 _=>
pBin Try.prog .neq 3 true t17 (.sc (.int .i64 1)) fun t19=>
n9 W R N E P x2 t19 h
def n11:N0:=fun _ R _ _ _ h=>
R [(.sc (.int .i64 120))] h
def n12:N2:=fun W R N E P x2 x46 h=>
aIf x46 (
n11 W R N E P h) (
n10 W R N E P x2 h)
def n13:N3:=fun W R N E P x2 x28 x45 h=>
pPick x28 x45 (.sc (.bool false)) fun t20=>
n12 W R N E P x2 t20 h
def n14:N4:=fun W R N E P x2 x28 x38 x44 h=>
aIg true x28 (
pPick x38 (.sc (.bool true)) x44 fun t21=>
n13 W R N E P x2 x28 t21 h) (
n13 W R N E P x2 x28 noA h)
def n15:N3:=fun W R N E P x2 x28 x38 h=>
aIg false x38 (
pFld (some 6) x2 fun t22=>
lLd (some false) (some 1) t22 h fun t23 _=>
pFld (some 5) x2 fun t25=>
lLd (some false) (some 1) t25 h fun t26 _=>
pBin Try.prog .andNot 43 false t23 t26 fun t28=>
pBin Try.prog .neq 43 true t28 (.sc (.int .u64 0)) fun t29=>
n14 W R N E P x2 x28 x38 t29 h) (
n14 W R N E P x2 x28 x38 noA h)
def n16:N4:=fun W R N E P x2 x28 x32 x36 h=>
aIg true x28 (
pPick x32 (.sc (.bool true)) x36 fun t30=>
n15 W R N E P x2 x28 t30 h) (
n15 W R N E P x2 x28 noA h)
def n17:N4:=fun W R N E P x1 x2 x28 x32 h=>
aIg false x32 (
pFld (some 5) x2 fun t31=>
lLd (some false) (some 1) t31 h fun t32 _=>
aCall Try.prog W 71 [t32,x1] h (fun t34 h35=>
n16 W R N E P x2 x28 x32 t34 h35) P) (
n16 W R N E P x2 x28 x32 noA h)
def n18:N3:=fun W R N E P x1 x2 x28 h=>
aIg true x28 (
pFld (some 5) x2 fun t36=>
lLd (some false) (some 1) t36 h fun t37 _=>
pBin Try.prog .eql 43 true t37 (.sc (.int .u64 0)) fun t39=>
n17 W R N E P x1 x2 x28 t39 h) (
n17 W R N E P x1 x2 x28 noA h)
def n19:N2:=fun W R N E P x1 x2 h=>
pFld (some 4) x2 fun t40=>
lLd (some false) (some 1) t40 h fun t41 _=>
n18 W R N E P x1 x2 t41 h
def n20:N0:=fun _ R _ _ _ h=>
R [(.sc (.int .i64 120))] h
def n21:N3:=fun W R N E P x1 x2 x25 h=>
aIf x25 (
n20 W R N E P h) (
n19 W R N E P x1 x2 h)
def n22:N4:=fun W R N E P x1 x2 x16 x24 h=>
pPick x16 x24 (.sc (.bool false)) fun t43=>
n21 W R N E P x1 x2 t43 h
def n23:N5:=fun W R N E P x1 x2 x16 x20 x23 h=>
aIg true x16 (
pPick x20 (.sc (.bool true)) x23 fun t44=>
n22 W R N E P x1 x2 x16 t44 h) (
n22 W R N E P x1 x2 x16 noA h)
def n24:N4:=fun W R N E P x1 x2 x16 x20 h=>
aIg false x20 (
pFld (some 6) x2 fun t45=>
lLd (some false) (some 1) t45 h fun t46 _=>
pBin Try.prog .neq 43 true t46 (.sc (.int .u64 0)) fun t48=>
n23 W R N E P x1 x2 x16 x20 t48 h) (
n23 W R N E P x1 x2 x16 x20 noA h)
def n25:N3:=fun W R N E P x1 x2 x16 h=>
aIg true x16 (
pFld (some 5) x2 fun t49=>
lLd (some false) (some 1) t49 h fun t50 _=>
pBin Try.prog .neq 43 true t50 (.sc (.int .u64 0)) fun t52=>
n24 W R N E P x1 x2 x16 t52 h) (
n24 W R N E P x1 x2 x16 noA h)
def n26:N2:=fun W R N E P x1 x2 h=>
pFld (some 4) x2 fun t53=>
lLd (some false) (some 1) t53 h fun t54 _=>
pUn .not t54 fun t56=>
n25 W R N E P x1 x2 t56 h
def n27:N0:=fun _ R _ _ _ h=>
R [(.sc (.int .i64 120))] h
def n28:N3:=fun W R N E P x1 x2 x12 h=>
aIf x12 (
n27 W R N E P h) (
n26 W R N E P x1 x2 h)
def n29:N4:=fun W R N E P x1 x2 x8 x11 h=>
pPick x8 (.sc (.bool true)) x11 fun t57=>
n28 W R N E P x1 x2 t57 h
def n30:N3:=fun W R N E P x1 x2 x8 h=>
aIg false x8 (
pFld (some 0) x2 fun t58=>
lLd (some false) (some 1) t58 h fun t59 _=>
pBin Try.prog .gtr 3 true t59 (.sc (.int .i64 3)) fun t61=>
n29 W R N E P x1 x2 x8 t61 h) (
n29 W R N E P x1 x2 x8 noA h)
def n31:N2:=fun W R N E P x1 x2 h=>
pFld (some 0) x2 fun t62=>
lLd (some false) (some 1) t62 h fun t63 _=>
pBin Try.prog .lss 3 true t63 (.sc (.int .i64 1)) fun t65=>
n30 W R N E P x1 x2 t65 h
def n32:N2:=fun W R N E P x0 x1 h=>
eBox 7 45 x0 h fun t66 h67=>
n31 W R N E P x1 t66 h67
theorem callsN{x0 x1:AV}{h:AH}{M:WK}{R:RK}(hp:n32 (fun id=>M id\/h.next<=id) (retV Try.prog [.tmp 4] R) (retV Try.prog [.tmp 4] R) (fun _ _ _=>False) (fun v h=>R (.pan v) h) x0 x1 h):ACalls Try.prog 50 [x0,x1] h M R:=
 fin (n:=65) (pl:=[(1,⟨[(none,(fr 0 4)),(some (3,false),(fr 4 3)),(none,(fr 7 1))],false,[],[]⟩),(3,⟨[(none,(fr 0 4)),(some (3,true),(fr 4 4)),(some (7,false),(fr 8 3)),(some (3,true),(fr 11 1)),(none,(fr 12 1))],false,[],[]⟩),(5,⟨[(none,(fr 0 3)),(some (2,true),(fr 3 4)),(some (6,false),(fr 7 4)),(some (2,true),(fr 11 2)),(some (12,false),(fr 13 6)),(some (2,true),(fr 19 1)),(none,(fr 20 1))],false,[],[]⟩),(7,⟨[(none,(fr 0 4)),(some (3,true),(fr 4 3)),(none,(fr 7 2)),(some (8,false),(fr 9 4)),(some (12,true),(fr 13 3)),(some (8,false),(fr 16 1)),(none,(fr 17 1))],false,[],[]⟩)]) (rs:=[.tmp 4]) (L:=rs) (fun c=>(a2 n32 0 1 c)) Try.mixed Try.func50 (fun c=>
(sq (a2 n32 0 1 c)
(sn
(sn
(sn
(sn
(sl (a0 n1 c))
(sn
(cd (a1 n3 64 c) (sl (a0 n2 c)) tr)
(gr (gn (a1 n10 2 c) (gx (a2 n9 2 50 c) (gn (a3 n8 2 50 53 c) (gx (a2 n7 2 55 c) (gx (a3 n6 2 55 59 c) (gx (a3 n5 55 59 62 c) (gl (a2 n4 55 63 c)))))))))))
(sn
(cd (a2 n12 2 46 c) (sl (a0 n11 c)) tr)
(gr (gn (a2 n19 1 2 c) (gx (a3 n18 1 2 28 c) (gx (a4 n17 1 2 28 32 c) (gx (a4 n16 2 28 32 36 c) (gx (a3 n15 2 28 38 c) (gx (a4 n14 2 28 38 44 c) (gl (a3 n13 2 28 45 c)))))))))))
(sn
(cd (a3 n21 1 2 25 c) (sl (a0 n20 c)) tr)
(gr (gn (a2 n26 1 2 c) (gx (a3 n25 1 2 16 c) (gx (a4 n24 1 2 16 20 c) (gx (a5 n23 1 2 16 20 23 c) (gl (a4 n22 1 2 16 24 c)))))))))
(sn
(cd (a3 n28 1 2 12 c) (sl (a0 n27 c)) tr)
(gr (gn (a2 n31 1 2 c) (gx (a3 n30 1 2 8 c) (gl (a4 n29 1 2 8 11 c))))))))) hp
attribute [simp] n1 n2 n3 n4 n5 n6 n7 n8 n9 n10 n11 n12 n13 n14 n15 n16 n17 n18 n19 n20 n21 n22 n23 n24 n25 n26 n27 n28 n29 n30 n31 n32
end F50
namespace F52
abbrev rs:List Nat:=[2]
def n1:N0:=fun _ R _ _ _ h=>
R [(.sc (.int .i64 0))] h
def n2:N0:=fun _ R _ _ _ h=>
R [(.sc (.int .i64 1))] h
def n3:N1:=fun W R N E P x4 h=>
aIf x4 (
n2 W R N E P h) (
n1 W R N E P h)
def n4:N2:=fun W R N E P x3 x4 h=>
aIf x4 (
n3 W R N E P x4 h) (
pBin Try.prog .eql 9 true x3 (.sc (.string ⟨#[99,104]⟩)) fun t1=>
n3 W R N E P t1 h)
def n5:N1:=fun W R N E P x3 h=>
pBin Try.prog .eql 9 true x3 (.sc (.string ⟨#[118,100,103]⟩)) fun t2=>
n4 W R N E P x3 t2 h
def n6:N2:=fun W R N E P x3 x4 h=>
aIf x4 (
n3 W R N E P x4 h) (
n5 W R N E P x3 h)
def n7:N1:=fun W R N E P x3 h=>
pBin Try.prog .eql 9 true x3 (.sc (.string ⟨#[118]⟩)) fun t3=>
n6 W R N E P x3 t3 h
def n8:N2:=fun W R N E P x3 x4 h=>
aIf x4 (
n3 W R N E P x4 h) (
n7 W R N E P x3 h)
def n9:N1:=fun W R N E P x3 h=>
pBin Try.prog .eql 9 true x3 (.sc (.string ⟨#[104]⟩)) fun t4=>
n8 W R N E P x3 t4 h
def n10:N1:=fun W R N E P x0 h=>
n9 W R N E P x0 h
def n11:N1:=fun W R N E P x0 h=>
n10 W R N E P x0 h
theorem callsN{x0:AV}{h:AH}{M:WK}{R:RK}(hp:n11 (fun id=>M id\/h.next<=id) (retV Try.prog [.tmp 2] R) (retV Try.prog [.tmp 2] R) (fun _ _ _=>False) (fun v h=>R (.pan v) h) x0 h):ACalls Try.prog 52 [x0] h M R:=
 fin (n:=9) (pl:=[]) (rs:=[.tmp 2]) (L:=rs) (fun c=>(a1 n11 0 c)) Try.mixed Try.func52 (fun c=>
(sq (a1 n11 0 c)
(sn
(sl (a0 n1 c))
(sq (a1 n10 0 c)
(bk 0 (sn
(cd (a1 n3 4 c) (sl (a0 n2 c)) tr)
(sq (a1 n9 3 c)
(cd (a2 n8 3 4 c) tr (sq (a1 n7 3 c)
(cd (a2 n6 3 4 c) tr (sq (a1 n5 3 c)
(cd (a2 n4 3 4 c) tr tr)))))))))))) hp
attribute [simp] n1 n2 n3 n4 n5 n6 n7 n8 n9 n10 n11
end F52
namespace F71
abbrev rs:List Nat:=[4]
def n1:N1:=fun _ R _ _ _ x4 h=>
R [x4] h
def n2:N2:=fun W R N E P x7 x12 h=>
pPick x7 x12 (.sc (.bool false)) fun t1=>
n1 W R N E P t1 h
def n3:N3:=fun W R N E P x0 x1 x7 h=>
aIg true x7 (
pCnv (some .u64) x1 fun t2=>
pBin Try.prog .shr 43 false x0 t2 fun t3=>
pBin Try.prog .neq 43 true t3 (.sc (.int .u64 0)) fun t4=>
n2 W R N E P x7 t4 h) (
n2 W R N E P x7 noA h)
def n4:N2:=fun W R N E P x0 x1 h=>
pBin Try.prog .lss 3 true x1 (.sc (.int .i64 64)) fun t5=>
n3 W R N E P x0 x1 t5 h
def n5:N2:=fun W R N E P x0 x1 h=>
n4 W R N E P x0 x1 h
theorem callsN{x0 x1:AV}{h:AH}{M:WK}{R:RK}(hp:n5 (fun id=>M id\/h.next<=id) (retV Try.prog [.tmp 4] R) (retV Try.prog [.tmp 4] R) (fun _ _ _=>False) (fun v h=>R (.pan v) h) x0 x1 h):ACalls Try.prog 71 [x0,x1] h M R:=
 fin (n:=14) (pl:=[(1,⟨[(none,(fr 0 3)),(some (2,true),(fr 3 5)),(none,(fr 8 2))],false,[],[]⟩)]) (rs:=[.tmp 4]) (L:=rs) (fun c=>(a2 n5 0 1 c)) Try.mixed Try.func71 (fun c=>
(sq (a2 n5 0 1 c)
(sn
(sm (a1 n1 4 c))
(gr (gn (a2 n4 0 1 c) (gx (a3 n3 0 1 7 c) (gl (a2 n2 7 12 c)))))))) hp
attribute [simp] n1 n2 n3 n4 n5
end F71
namespace F35
abbrev rs:List Nat:=[2,3]
def n1:N1:=fun _ R _ _ _ x0 h=>
R [x0,(.sc (.int .i64 0))] h
def n2:N0:=fun _ R _ _ _ h=>
R [(.sc (.string ⟨#[]⟩)),(.sc (.int .i64 80))] h
def n3:N2:=fun W R N E P x0 x28 h=>
aIf x28 (
n2 W R N E P h) (
n1 W R N E P x0 h)
def n4:N1:=fun W R N E P x0 h=>
aCall Try.prog W 51 [x0] h (fun t1 h2=>
pBin Try.prog .eql 3 true t1 (.sc (.int .i64 0)) fun t3=>
n3 W R N E P x0 t3 h2) P
def n5:N1:=fun _ R _ _ _ x0 h=>
pBin Try.prog .add 9 true x0 (.sc (.string ⟨#[100,103]⟩)) fun t4=>
R [t4,(.sc (.int .i64 0))] h
def n6:N1:=fun _ R _ _ _ x0 h=>
(strArg x0=true)/\pLen x0 fun t5=>
pBin Try.prog .sub 3 true t5 (.sc (.int .i64 2)) fun t6=>
pSlS x0 none (some t6) fun t7=>
R [t7,(.sc (.int .i64 0))] h
def n7:N2:=fun W R N E P x0 x14 h=>
aIf x14 (
n6 W R N E P x0 h) (
n4 W R N E P x0 h)
def n8:N3:=fun W R N E P x0 x4 x14 h=>
aIf x14 (
n7 W R N E P x0 x14 h) (
pBin Try.prog .eql 9 true x4 (.sc (.string ⟨#[105,115,119,97,112,100,103]⟩)) fun t8=>
n7 W R N E P x0 t8 h)
def n9:N2:=fun W R N E P x0 x4 h=>
pBin Try.prog .eql 9 true x4 (.sc (.string ⟨#[99,115,100,103]⟩)) fun t9=>
n8 W R N E P x0 x4 t9 h
def n10:N3:=fun W R N E P x0 x4 x14 h=>
aIf x14 (
n7 W R N E P x0 x14 h) (
n9 W R N E P x0 x4 h)
def n11:N2:=fun W R N E P x0 x4 h=>
pBin Try.prog .eql 9 true x4 (.sc (.string ⟨#[119,100,103]⟩)) fun t10=>
n10 W R N E P x0 x4 t10 h
def n12:N3:=fun W R N E P x0 x4 x14 h=>
aIf x14 (
n7 W R N E P x0 x14 h) (
n11 W R N E P x0 x4 h)
def n13:N2:=fun W R N E P x0 x4 h=>
pBin Try.prog .eql 9 true x4 (.sc (.string ⟨#[118,100,103]⟩)) fun t11=>
n12 W R N E P x0 x4 t11 h
def n14:N3:=fun W R N E P x0 x4 x14 h=>
aIf x14 (
n7 W R N E P x0 x14 h) (
n13 W R N E P x0 x4 h)
def n15:N2:=fun W R N E P x0 x4 h=>
pBin Try.prog .eql 9 true x4 (.sc (.string ⟨#[116,100,103]⟩)) fun t12=>
n14 W R N E P x0 x4 t12 h
def n16:N3:=fun W R N E P x0 x4 x14 h=>
aIf x14 (
n7 W R N E P x0 x14 h) (
n15 W R N E P x0 x4 h)
def n17:N2:=fun W R N E P x0 x4 h=>
pBin Try.prog .eql 9 true x4 (.sc (.string ⟨#[115,100,103]⟩)) fun t13=>
n16 W R N E P x0 x4 t13 h
def n18:N3:=fun W R N E P x0 x4 x5 h=>
aIf x5 (
n5 W R N E P x0 h) (
n17 W R N E P x0 x4 h)
def n19:N3:=fun W R N E P x0 x4 x5 h=>
aIf x5 (
n18 W R N E P x0 x4 x5 h) (
pBin Try.prog .eql 9 true x4 (.sc (.string ⟨#[105,115,119,97,112]⟩)) fun t14=>
n18 W R N E P x0 x4 t14 h)
def n20:N2:=fun W R N E P x0 x4 h=>
pBin Try.prog .eql 9 true x4 (.sc (.string ⟨#[99,115]⟩)) fun t15=>
n19 W R N E P x0 x4 t15 h
def n21:N3:=fun W R N E P x0 x4 x5 h=>
aIf x5 (
n18 W R N E P x0 x4 x5 h) (
n20 W R N E P x0 x4 h)
def n22:N2:=fun W R N E P x0 x4 h=>
pBin Try.prog .eql 9 true x4 (.sc (.string ⟨#[119]⟩)) fun t16=>
n21 W R N E P x0 x4 t16 h
def n23:N3:=fun W R N E P x0 x4 x5 h=>
aIf x5 (
n18 W R N E P x0 x4 x5 h) (
n22 W R N E P x0 x4 h)
def n24:N2:=fun W R N E P x0 x4 h=>
pBin Try.prog .eql 9 true x4 (.sc (.string ⟨#[118]⟩)) fun t17=>
n23 W R N E P x0 x4 t17 h
def n25:N3:=fun W R N E P x0 x4 x5 h=>
aIf x5 (
n18 W R N E P x0 x4 x5 h) (
n24 W R N E P x0 x4 h)
def n26:N2:=fun W R N E P x0 x4 h=>
pBin Try.prog .eql 9 true x4 (.sc (.string ⟨#[116]⟩)) fun t18=>
n25 W R N E P x0 x4 t18 h
def n27:N3:=fun W R N E P x0 x4 x5 h=>
aIf x5 (
n18 W R N E P x0 x4 x5 h) (
n26 W R N E P x0 x4 h)
def n28:N2:=fun W R N E P x0 x4 h=>
pBin Try.prog .eql 9 true x4 (.sc (.string ⟨#[115]⟩)) fun t19=>
n27 W R N E P x0 x4 t19 h
def n29:N1:=fun W R N E P x0 h=>
n28 W R N E P x0 x0 h
def n30:N1:=fun W R N E P x0 h=>
n29 W R N E P x0 h
theorem callsN{x0:AV}{h:AH}{M:WK}{R:RK}(hp:n30 (fun id=>M id\/h.next<=id) (retV Try.prog [.tmp 2,.tmp 3] R) (retV Try.prog [.tmp 2,.tmp 3] R) (fun _ _ _=>False) (fun v h=>R (.pan v) h) x0 h):ACalls Try.prog 35 [x0] h M R:=
 fin (n:=30) (pl:=[]) (rs:=[.tmp 2,.tmp 3]) (L:=rs) (fun c=>(a1 n30 0 c)) Try.mixed Try.func35 (fun c=>
(sq (a1 n30 0 c)
(sn
(sn
(sl (a1 n1 0 c))
(sq (a1 n4 0 c)
(cd (a2 n3 0 28 c) (sl (a0 n2 c)) tr)))
(sq (a1 n29 0 c)
(bk 0 (sn
(cd (a3 n18 0 4 5 c) (sl (a1 n5 0 c)) (sn
(cd (a2 n7 0 14 c) (sl (a1 n6 0 c)) tr)
(sq (a2 n17 0 4 c)
(cd (a3 n16 0 4 14 c) tr (sq (a2 n15 0 4 c)
(cd (a3 n14 0 4 14 c) tr (sq (a2 n13 0 4 c)
(cd (a3 n12 0 4 14 c) tr (sq (a2 n11 0 4 c)
(cd (a3 n10 0 4 14 c) tr (sq (a2 n9 0 4 c)
(cd (a3 n8 0 4 14 c) tr tr))))))))))))
(sq (a2 n28 0 4 c)
(cd (a3 n27 0 4 5 c) tr (sq (a2 n26 0 4 c)
(cd (a3 n25 0 4 5 c) tr (sq (a2 n24 0 4 c)
(cd (a3 n23 0 4 5 c) tr (sq (a2 n22 0 4 c)
(cd (a3 n21 0 4 5 c) tr (sq (a2 n20 0 4 c)
(cd (a3 n19 0 4 5 c) tr tr)))))))))))))))) hp
attribute [simp] n1 n2 n3 n4 n5 n6 n7 n8 n9 n10 n11 n12 n13 n14 n15 n16 n17 n18 n19 n20 n21 n22 n23 n24 n25 n26 n27 n28 n29 n30
end F35
end Go.Proofs.Ytbdibjgoeeokoaa
