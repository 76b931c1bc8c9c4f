/- Bodies of the circuit checks; printed. No condition. -/
import Derived.Test.YtbdibjgoeeokoaaGl
set_option maxRecDepth 100000
namespace Go.Proofs.Ytbdibjgoeeokoaa
open Go.Ab
namespace F22
abbrev rs:List Nat:=[2,3]
def n1:N0:=fun _ R _ _ _ h=>
R [(.sc (.int .i64 0)),(.sc (.int .i64 0))] h
def n2:N5:=fun _ _ N _ _ x1 x4 x31 x32 x33 h=>
pBin Try.prog .add 3 true x33 (.sc (.int .i64 1)) fun t1=>
N [x1,x4,x31,x32,t1] h
def n3:N1:=fun _ R _ _ _ x5 h=>
R [x5,(.sc (.int .i64 116))] h
def n4:N7:=fun W R N E P x1 x4 x5 x31 x32 x33 x50 h=>
aIf x50 (
n3 W R N E P x5 h) (
n2 W R N E P x1 x4 x31 x32 x33 h)
def n5:N6:=fun W R N E P x1 x4 x5 x31 x32 x33 h=>
pBin Try.prog .gtr 3 true x4 (.sc (.int .i64 36)) fun t2=>
n4 W R N E P x1 x4 x5 x31 x32 x33 t2 h
def n6:N7:=fun W R N E P x1 x4 x5 x6 x31 x32 x33 h=>
lLd (some true) (some 7) x6 h fun t3 _=>
aCall Try.prog W 41 [t3] h (fun t5 h6=>
pBin Try.prog .add 3 false x4 t5 fun t7=>
n5 W R N E P x1 t7 x5 x31 x32 x33 h6) P
def n7:N2:=fun _ R _ _ _ x5 x7 h=>
R [x5,x7] h
def n8:N9:=fun W R N E P x1 x4 x5 x6 x7 x31 x32 x33 x42 h=>
aIf x42 (
n7 W R N E P x5 x7 h) (
n6 W R N E P x1 x4 x5 x6 x31 x32 x33 h)
def n9:N8:=fun W R N E P x1 x4 x5 x6 x7 x31 x32 x33 h=>
pBin Try.prog .neq 30 true x7 (.sc (.int .i64 0)) fun t8=>
n8 W R N E P x1 x4 x5 x6 x7 x31 x32 x33 t8 h
def n10:N7:=fun W R N E P x1 x4 x5 x6 x31 x32 x33 h=>
lLd (some true) (some 3) x1 h fun t9 _=>
lLd (some true) (some 7) x6 h fun t11 _=>
aCall Try.prog W 40 [t9,t11] h (fun t13 h14=>
n9 W R N E P x1 x4 x5 x6 t13 x31 x32 x33 h14) P
def n11:N5:=fun W R N E P x1 x4 x31 x32 x33 h=>
pIxA (some (7,none)) x31 x33 fun t15=>
lLd (some true) (some 7) t15 h fun t16 _=>
eAlloc (some [.int .i64 0,.string ⟨#[]⟩,.slice none 0 0,.int .i64 0,.bool false,.int .u64 0,.int .u64 0]) 7 45 h fun t18 h19=>
eStore (some 7) t18 t16 h19 W fun h20=>
n10 W R N E P x1 x4 x33 t18 x31 x32 x33 h20
def n12:N6:=fun W R N E P x1 x4 x31 x32 x33 x34 h=>
aIf x34 (
n11 W R N E P x1 x4 x31 x32 x33 h) (
E 0 [] h)
def n13:N5:=fun W R N E P x1 x4 x31 x32 x33 h=>
pBin Try.prog .lss 3 false x33 x32 fun t21=>
n12 W R N E P x1 x4 x31 x32 x33 t21 h
def g1_:GK:=fun W R N E P N' vs h=>n13 W R N' (fun(i:Nat) (vs:List AV) (h:AH)=>if i=0 then n1 W R N E P h else E i vs h) P (vs.getD 0 noA) (vs.getD 1 noA) (vs.getD 2 noA) (vs.getD 3 noA) (vs.getD 4 noA) h
def n14:N5:=fun W R N E P x1 x4 x31 x32 x33 h=>
vLoop (g1_ W R N E P) [x1,x4,x31,x32,x33] h
def n15:N2:=fun W R N E P x1 x4 h=>
pFld (some 2) x1 fun t22=>
lLd (some false) (some 1) t22 h fun t23 _=>
(strArg t23=false)/\pLen t23 fun t25=>
n14 W R N E P x1 x4 t23 t25 (.sc (.int .i64 0)) h
def n16:N1:=fun W R N E P x1 h=>
n15 W R N E P x1 (.sc (.int .i64 0)) h
def n17:N0:=fun _ R _ _ _ h=>
R [(.sc (.int .i64 0)),(.sc (.int .i64 115))] h
def n18:N2:=fun W R N E P x1 x29 h=>
aIf x29 (
n17 W R N E P h) (
n16 W R N E P x1 h)
def n19:N1:=fun W R N E P x1 h=>
pFld (some 2) x1 fun t26=>
lLd (some false) (some 1) t26 h fun t27 _=>
(strArg t27=false)/\pLen t27 fun t29=>
pBin Try.prog .gtr 3 true t29 (.sc (.int .i64 4096)) fun t30=>
n18 W R N E P x1 t30 h
def n20:N0:=fun _ R _ _ _ h=>
R [(.sc (.int .i64 0)),(.sc (.int .i64 2))] h
def n21:N2:=fun W R N E P x1 x25 h=>
aIf x25 (
n20 W R N E P h) (
n19 W R N E P x1 h)
def n22:N3:=fun W R N E P x1 x21 x24 h=>
pPick x21 (.sc (.bool true)) x24 fun t31=>
n21 W R N E P x1 t31 h
def n23:N2:=fun W R N E P x1 x21 h=>
aIg false x21 (
pFld (some 1) x1 fun t32=>
lLd (some false) (some 1) t32 h fun t33 _=>
pBin Try.prog .gtr 3 true t33 (.sc (.int .i64 64)) fun t35=>
n22 W R N E P x1 x21 t35 h) (
n22 W R N E P x1 x21 noA h)
def n24:N3:=fun W R N E P x1 x16 x19 h=>
pPick x16 (.sc (.bool true)) x19 fun t36=>
n23 W R N E P x1 t36 h
def n25:N2:=fun W R N E P x1 x16 h=>
aIg false x16 (
pFld (some 1) x1 fun t37=>
lLd (some false) (some 1) t37 h fun t38 _=>
pBin Try.prog .lss 3 true t38 (.sc (.int .i64 0)) fun t40=>
n24 W R N E P x1 x16 t40 h) (
n24 W R N E P x1 x16 noA h)
def n26:N3:=fun W R N E P x1 x11 x14 h=>
pPick x11 (.sc (.bool true)) x14 fun t41=>
n25 W R N E P x1 t41 h
def n27:N2:=fun W R N E P x1 x11 h=>
aIg false x11 (
pFld (some 0) x1 fun t42=>
lLd (some false) (some 1) t42 h fun t43 _=>
pBin Try.prog .gtr 3 true t43 (.sc (.int .i64 64)) fun t45=>
n26 W R N E P x1 x11 t45 h) (
n26 W R N E P x1 x11 noA h)
def n28:N1:=fun W R N E P x1 h=>
pFld (some 0) x1 fun t46=>
lLd (some false) (some 1) t46 h fun t47 _=>
pBin Try.prog .lss 3 true t47 (.sc (.int .i64 0)) fun t49=>
n27 W R N E P x1 t49 h
def n29:N1:=fun W R N E P x0 h=>
eBox 3 24 x0 h fun t50 h51=>
n28 W R N E P t50 h51
theorem callsN{x0:AV}{h:AH}{M:WK}{R:RK}(hp:n29 (fun id=>M id\/h.next<=id) (retV Try.prog [.tmp 2,.tmp 3] R) (retV Try.prog [.tmp 2,.tmp 3] R) (fun _ _ _=>False) (fun v h=>R (.pan v) h) x0 h):ACalls Try.prog 22 [x0] h M R:=
 fin (n:=53) (pl:=[(1,⟨[(none,(fr 0 4)),(some (3,false),(fr 4 3)),(none,(fr 7 2)),(some (8,false),(fr 9 3)),(none,(fr 12 2)),(some (13,false),(fr 14 3)),(none,(fr 17 1))],false,[],[]⟩)]) (rs:=[.tmp 2,.tmp 3]) (L:=rs) (fun c=>(a1 n29 0 c)) Try.mixed Try.func22 (fun c=>
(sq (a1 n29 0 c)
(sn
(sn
(sq (a1 n16 1 c)
(sn
(sl (a0 n1 c))
(sq (a2 n15 1 4 c)
(bk 0 (lp [1,4,31,32,33] rs [(0,[])] (a5 n14 1 4 31 32 33 c) g1_ (fun i vs h=>if i=0 then n1 c.W c.R c.N c.E c.P h else c.E i vs h) (.b (.t .o)) fun c=>
(sq (a5 n13 1 4 31 32 33 c)
(sn
(sn
(sm (a5 n2 1 4 31 32 33 c))
(bk 1 (sq (a5 n11 1 4 31 32 33 c)
(sn
(sq (a7 n6 1 4 5 6 31 32 33 c)
(sq (a6 n5 1 4 5 31 32 33 c)
(cd (a7 n4 1 4 5 31 32 33 50 c) (sl (a1 n3 5 c)) tr)))
(sq (a7 n10 1 4 5 6 31 32 33 c)
(sq (a8 n9 1 4 5 6 7 31 32 33 c)
(cd (a9 n8 1 4 5 6 7 31 32 33 42 c) (sl (a2 n7 5 7 c)) tr)))))))
(cd (a6 n12 1 4 31 32 33 34 c) tr tr))))))))
(sq (a1 n19 1 c)
(cd (a2 n18 1 29 c) (sl (a0 n17 c)) tr)))
(sn
(cd (a2 n21 1 25 c) (sl (a0 n20 c)) tr)
(gr (gn (a1 n28 1 c) (gx (a2 n27 1 11 c) (gn (a3 n26 1 11 14 c) (gx (a2 n25 1 16 c) (gn (a3 n24 1 16 19 c) (gx (a2 n23 1 21 c) (gl (a3 n22 1 21 24 c))))))))))))) hp
attribute [simp] n1 n2 n3 n4 n5 n6 n7 n8 n9 n10 n11 n12 n13 n15 n16 n17 n18 n19 n20 n21 n22 n23 n24 n25 n26 n27 n28 n29
end F22
namespace F40
abbrev rs:List Nat:=[4]
def n1:N0:=fun _ R _ _ _ h=>
R [(.sc (.int .i64 0))] h
def n2:N4:=fun _ _ N _ _ x3 x128 x129 x130 h=>
pBin Try.prog .add 3 true x130 (.sc (.int .i64 1)) fun t1=>
N [x3,x128,x129,t1] h
def n3:N0:=fun _ R _ _ _ h=>
R [(.sc (.int .i64 113))] h
def n4:N5:=fun W R N E P x3 x128 x129 x130 x140 h=>
aIf x140 (
n3 W R N E P h) (
n2 W R N E P x3 x128 x129 x130 h)
def n5:N6:=fun W R N E P x3 x10 x11 x128 x129 x130 h=>
pFld (some 2) x3 fun t2=>
lLd (some false) (some 1) t2 h fun t3 _=>
pSlL (some 1) t3 none (some x10) h fun t5=>
aCall Try.prog W 58 [t5,x11] h (fun t6 h7=>
n4 W R N E P x3 x128 x129 x130 t6 h7) P
def n6:N4:=fun W R N E P x3 x128 x129 x130 h=>
pIxA (some (1,none)) x128 x130 fun t8=>
lLd (some false) (some 1) t8 h fun t9 _=>
n5 W R N E P x3 x130 t9 x128 x129 x130 h
def n7:N5:=fun W R N E P x3 x128 x129 x130 x131 h=>
aIf x131 (
n6 W R N E P x3 x128 x129 x130 h) (
E 3 [] h)
def n8:N4:=fun W R N E P x3 x128 x129 x130 h=>
pBin Try.prog .lss 3 false x130 x129 fun t11=>
n7 W R N E P x3 x128 x129 x130 t11 h
def g1_:GK:=fun W R N E P N' vs h=>n8 W R N' (fun(i:Nat) (vs:List AV) (h:AH)=>if i=3 then n1 W R N E P h else E i vs h) P (vs.getD 0 noA) (vs.getD 1 noA) (vs.getD 2 noA) (vs.getD 3 noA) h
def n9:N4:=fun W R N E P x3 x128 x129 x130 h=>
vLoop (g1_ W R N E P) [x3,x128,x129,x130] h
def n10:N1:=fun W R N E P x3 h=>
pFld (some 2) x3 fun t12=>
lLd (some false) (some 1) t12 h fun t13 _=>
(strArg t13=false)/\pLen t13 fun t15=>
n9 W R N E P x3 t13 t15 (.sc (.int .i64 0)) h
def n11:N0:=fun _ R _ _ _ h=>
R [(.sc (.int .i64 112))] h
def n12:N2:=fun W R N E P x3 x126 h=>
aIf x126 (
n11 W R N E P h) (
n10 W R N E P x3 h)
def n13:N3:=fun W R N E P x3 x115 x125 h=>
pPick x115 x125 (.sc (.bool false)) fun t16=>
n12 W R N E P x3 t16 h
def n14:N4:=fun W R N E P x3 x115 x119 x124 h=>
aIg true x115 (
pPick x119 (.sc (.bool true)) x124 fun t17=>
n13 W R N E P x3 x115 t17 h) (
n13 W R N E P x3 x115 noA h)
def n15:N4:=fun W R N E P x2 x3 x115 x119 h=>
aIg false x119 (
pFld (some 3) x3 fun t18=>
lLd (some false) (some 1) t18 h fun t19 _=>
pFld (some 1) x2 fun t21=>
lLd (some false) (some 1) t21 h fun t22 _=>
pBin Try.prog .geq 3 false t19 t22 fun t24=>
n14 W R N E P x3 x115 x119 t24 h) (
n14 W R N E P x3 x115 x119 noA h)
def n16:N3:=fun W R N E P x2 x3 x115 h=>
aIg true x115 (
pFld (some 3) x3 fun t25=>
lLd (some false) (some 1) t25 h fun t26 _=>
pBin Try.prog .lss 3 true t26 (.sc (.int .i64 0)) fun t28=>
n15 W R N E P x2 x3 x115 t28 h) (
n15 W R N E P x2 x3 x115 noA h)
def n17:N2:=fun W R N E P x2 x3 h=>
pFld (some 0) x3 fun t29=>
lLd (some false) (some 1) t29 h fun t30 _=>
pBin Try.prog .eql 3 true t30 (.sc (.int .i64 2)) fun t32=>
n16 W R N E P x2 x3 t32 h
def n18:N5:=fun _ _ N _ _ x2 x3 x97 x98 x99 h=>
pBin Try.prog .add 3 true x99 (.sc (.int .i64 1)) fun t33=>
N [x2,x3,x97,x98,t33] h
def n19:N0:=fun _ R _ _ _ h=>
R [(.sc (.int .i64 112))] h
def n20:N6:=fun W R N E P x2 x3 x97 x98 x99 x110 h=>
aIf x110 (
n19 W R N E P h) (
n18 W R N E P x2 x3 x97 x98 x99 h)
def n21:N7:=fun W R N E P x2 x3 x97 x98 x99 x105 x109 h=>
pPick x105 (.sc (.bool true)) x109 fun t34=>
n20 W R N E P x2 x3 x97 x98 x99 t34 h
def n22:N7:=fun W R N E P x2 x3 x9 x97 x98 x99 x105 h=>
aIg false x105 (
pFld (some 0) x2 fun t35=>
lLd (some false) (some 1) t35 h fun t36 _=>
pBin Try.prog .geq 3 false x9 t36 fun t38=>
n21 W R N E P x2 x3 x97 x98 x99 x105 t38 h) (
n21 W R N E P x2 x3 x97 x98 x99 x105 noA h)
def n23:N6:=fun W R N E P x2 x3 x9 x97 x98 x99 h=>
pBin Try.prog .lss 3 true x9 (.sc (.int .i64 0)) fun t39=>
n22 W R N E P x2 x3 x9 x97 x98 x99 t39 h
def n24:N5:=fun W R N E P x2 x3 x97 x98 x99 h=>
pIxA (some (1,none)) x97 x99 fun t40=>
lLd (some false) (some 1) t40 h fun t41 _=>
n23 W R N E P x2 x3 t41 x97 x98 x99 h
def n25:N6:=fun W R N E P x2 x3 x97 x98 x99 x100 h=>
aIf x100 (
n24 W R N E P x2 x3 x97 x98 x99 h) (
E 1 [x2,x3] h)
def n26:N5:=fun W R N E P x2 x3 x97 x98 x99 h=>
pBin Try.prog .lss 3 false x99 x98 fun t43=>
n25 W R N E P x2 x3 x97 x98 x99 t43 h
def g2_:GK:=fun W R N E P N' vs h=>n26 W R N' (fun(i:Nat) (vs:List AV) (h:AH)=>if i=1 then n17 W R N E P (vs.getD 0 noA) (vs.getD 1 noA) h else E i vs h) P (vs.getD 0 noA) (vs.getD 1 noA) (vs.getD 2 noA) (vs.getD 3 noA) (vs.getD 4 noA) h
def n27:N5:=fun W R N E P x2 x3 x97 x98 x99 h=>
vLoop (g2_ W R N E P) [x2,x3,x97,x98,x99] h
def n28:N2:=fun W R N E P x2 x3 h=>
pFld (some 2) x3 fun t44=>
lLd (some false) (some 1) t44 h fun t45 _=>
(strArg t45=false)/\pLen t45 fun t47=>
n27 W R N E P x2 x3 t45 t47 (.sc (.int .i64 0)) h
def n29:N0:=fun _ R _ _ _ h=>
R [(.sc (.int .i64 111))] h
def n30:N3:=fun W R N E P x2 x3 x95 h=>
aIf x95 (
n29 W R N E P h) (
n28 W R N E P x2 x3 h)
def n31:N3:=fun W R N E P x2 x3 x7 h=>
pFld (some 2) x3 fun t48=>
lLd (some false) (some 1) t48 h fun t49 _=>
(strArg t49=false)/\pLen t49 fun t51=>
pBin Try.prog .neq 3 false t51 x7 fun t52=>
n30 W R N E P x2 x3 t52 h
def n32:N0:=fun _ R _ _ _ h=>
R [(.sc (.int .i64 80))] h
def n33:N4:=fun W R N E P x2 x3 x7 x90 h=>
aIf x90 (
n32 W R N E P h) (
n31 W R N E P x2 x3 x7 h)
def n34:N3:=fun W R N E P x2 x3 x7 h=>
pBin Try.prog .eql 3 true x7 (.sc (.int .i64 0)) fun t53=>
n33 W R N E P x2 x3 x7 t53 h
def n35:N2:=fun W R N E P x2 x3 h=>
pFld (some 1) x3 fun t54=>
lLd (some false) (some 1) t54 h fun t55 _=>
aCall Try.prog W 57 [t55] h (fun t57 h58=>
n34 W R N E P x2 x3 t57 h58) P
def n36:N4:=fun W R N E P x2 x3 x7 x85 h=>
aIf x85 (
n35 W R N E P x2 x3 h) (
n31 W R N E P x2 x3 x7 h)
def n37:N3:=fun W R N E P x2 x3 x7 h=>
pFld (some 0) x3 fun t59=>
lLd (some false) (some 1) t59 h fun t60 _=>
pBin Try.prog .eql 3 true t60 (.sc (.int .i64 1)) fun t62=>
n36 W R N E P x2 x3 x7 t62 h
def n38:N2:=fun W R N E P x2 x3 h=>
n37 W R N E P x2 x3 (.sc (.int .i64 1)) h
def n39:N0:=fun _ R _ _ _ h=>
R [(.sc (.int .i64 120))] h
def n40:N0:=fun _ R _ _ _ h=>
R [(.sc (.int .i64 120))] h
def n41:N3:=fun W R N E P x2 x3 x66 h=>
aIf x66 (
n40 W R N E P h) (
n38 W R N E P x2 x3 h)
def n42:N4:=fun W R N E P x2 x3 x78 x81 h=>
pPick x78 x81 (.sc (.bool false)) fun t63=>
n41 W R N E P x2 x3 t63 h
def n43:N3:=fun W R N E P x2 x3 x78 h=>
aIg true x78 (
pFld (some 3) x3 fun t64=>
lLd (some false) (some 1) t64 h fun t65 _=>
pBin Try.prog .neq 3 true t65 (.sc (.int .i64 0)) fun t67=>
n42 W R N E P x2 x3 x78 t67 h) (
n42 W R N E P x2 x3 x78 noA h)
def n44:N2:=fun W R N E P x2 x3 h=>
pFld (some 0) x3 fun t68=>
lLd (some false) (some 1) t68 h fun t69 _=>
pBin Try.prog .neq 3 true t69 (.sc (.int .i64 2)) fun t71=>
n43 W R N E P x2 x3 t71 h
def n45:N3:=fun W R N E P x2 x3 x66 h=>
aIf x66 (
n41 W R N E P x2 x3 x66 h) (
n44 W R N E P x2 x3 h)
def n46:N4:=fun W R N E P x2 x3 x70 x73 h=>
pPick x70 x73 (.sc (.bool false)) fun t72=>
n45 W R N E P x2 x3 t72 h
def n47:N3:=fun W R N E P x2 x3 x70 h=>
aIg true x70 (
pFld (some 1) x3 fun t73=>
lLd (some false) (some 1) t73 h fun t74 _=>
pBin Try.prog .neq 9 true t74 (.sc (.string ⟨#[]⟩)) fun t76=>
n46 W R N E P x2 x3 x70 t76 h) (
n46 W R N E P x2 x3 x70 noA h)
def n48:N2:=fun W R N E P x2 x3 h=>
pFld (some 0) x3 fun t77=>
lLd (some false) (some 1) t77 h fun t78 _=>
pBin Try.prog .neq 3 true t78 (.sc (.int .i64 1)) fun t80=>
n47 W R N E P x2 x3 t80 h
def n49:N3:=fun W R N E P x2 x3 x32 h=>
aIf x32 (
n39 W R N E P h) (
n48 W R N E P x2 x3 h)
def n50:N3:=fun W R N E P x2 x3 x32 h=>
aIf x32 (
n49 W R N E P x2 x3 x32 h) (
pFld (some 6) x3 fun t81=>
lLd (some false) (some 1) t81 h fun t82 _=>
pFld (some 5) x3 fun t84=>
lLd (some false) (some 1) t84 h fun t85 _=>
pBin Try.prog .andNot 43 false t82 t85 fun t87=>
pBin Try.prog .neq 43 true t87 (.sc (.int .u64 0)) fun t88=>
n49 W R N E P x2 x3 t88 h)
def n51:N3:=fun W R N E P x2 x3 x6 h=>
pFld (some 5) x3 fun t89=>
lLd (some false) (some 1) t89 h fun t90 _=>
pBin Try.prog .andNot 43 false t90 x6 fun t92=>
pBin Try.prog .neq 43 true t92 (.sc (.int .u64 0)) fun t93=>
n50 W R N E P x2 x3 t93 h
def n52:N4:=fun W R N E P x2 x3 x6 x32 h=>
aIf x32 (
n49 W R N E P x2 x3 x32 h) (
n51 W R N E P x2 x3 x6 h)
def n53:N5:=fun W R N E P x2 x3 x6 x45 x53 h=>
pPick x45 x53 (.sc (.bool false)) fun t94=>
n52 W R N E P x2 x3 x6 t94 h
def n54:N6:=fun W R N E P x2 x3 x6 x45 x49 x52 h=>
aIg true x45 (
pPick x49 (.sc (.bool true)) x52 fun t95=>
n53 W R N E P x2 x3 x6 x45 t95 h) (
n53 W R N E P x2 x3 x6 x45 noA h)
def n55:N5:=fun W R N E P x2 x3 x6 x45 x49 h=>
aIg false x49 (
pFld (some 6) x3 fun t96=>
lLd (some false) (some 1) t96 h fun t97 _=>
pBin Try.prog .neq 43 true t97 (.sc (.int .u64 0)) fun t99=>
n54 W R N E P x2 x3 x6 x45 x49 t99 h) (
n54 W R N E P x2 x3 x6 x45 x49 noA h)
def n56:N4:=fun W R N E P x2 x3 x6 x45 h=>
aIg true x45 (
pFld (some 5) x3 fun t100=>
lLd (some false) (some 1) t100 h fun t101 _=>
pBin Try.prog .neq 43 true t101 (.sc (.int .u64 0)) fun t103=>
n55 W R N E P x2 x3 x6 x45 t103 h) (
n55 W R N E P x2 x3 x6 x45 noA h)
def n57:N3:=fun W R N E P x2 x3 x6 h=>
pFld (some 4) x3 fun t104=>
lLd (some false) (some 1) t104 h fun t105 _=>
pUn .not t105 fun t107=>
n56 W R N E P x2 x3 x6 t107 h
def n58:N4:=fun W R N E P x2 x3 x6 x32 h=>
aIf x32 (
n49 W R N E P x2 x3 x32 h) (
n57 W R N E P x2 x3 x6 h)
def n59:N5:=fun W R N E P x2 x3 x6 x37 x40 h=>
pPick x37 x40 (.sc (.bool false)) fun t108=>
n58 W R N E P x2 x3 x6 t108 h
def n60:N4:=fun W R N E P x2 x3 x6 x37 h=>
aIg true x37 (
pFld (some 5) x3 fun t109=>
lLd (some false) (some 1) t109 h fun t110 _=>
pBin Try.prog .eql 43 true t110 (.sc (.int .u64 0)) fun t112=>
n59 W R N E P x2 x3 x6 x37 t112 h) (
n59 W R N E P x2 x3 x6 x37 noA h)
def n61:N3:=fun W R N E P x2 x3 x6 h=>
pFld (some 4) x3 fun t113=>
lLd (some false) (some 1) t113 h fun t114 _=>
n60 W R N E P x2 x3 x6 t114 h
def n62:N4:=fun W R N E P x2 x3 x6 x32 h=>
aIf x32 (
n49 W R N E P x2 x3 x32 h) (
n61 W R N E P x2 x3 x6 h)
def n63:N4:=fun W R N E P x2 x3 x5 x6 h=>
pUn .not x5 fun t116=>
n62 W R N E P x2 x3 x6 t116 h
def n64:N5:=fun W R N E P x2 x3 x5 x6 x31 h=>
aIf x31 (
n63 W R N E P x2 x3 x5 (.sc (.int .u64 18446744073709551615)) h) (
n63 W R N E P x2 x3 x5 x6 h)
def n65:N4:=fun W R N E P x2 x3 x5 x6 h=>
pFld (some 1) x2 fun t117=>
lLd (some false) (some 1) t117 h fun t118 _=>
pBin Try.prog .eql 3 true t118 (.sc (.int .i64 64)) fun t120=>
n64 W R N E P x2 x3 x5 x6 t120 h
def n66:N3:=fun W R N E P x2 x3 x5 h=>
pFld (some 1) x2 fun t121=>
lLd (some false) (some 1) t121 h fun t122 _=>
pBin Try.prog .shl 43 true (.sc (.int .u64 1)) t122 fun t124=>
pBin Try.prog .sub 43 true t124 (.sc (.int .u64 1)) fun t125=>
n65 W R N E P x2 x3 x5 t125 h
def n67:N4:=fun W R N E P x2 x3 x20 x23 h=>
pPick x20 (.sc (.bool true)) x23 fun t126=>
n66 W R N E P x2 x3 t126 h
def n68:N3:=fun W R N E P x2 x3 x20 h=>
aIg false x20 (
pFld (some 0) x3 fun t127=>
lLd (some false) (some 1) t127 h fun t128 _=>
pBin Try.prog .eql 3 true t128 (.sc (.int .i64 3)) fun t130=>
n67 W R N E P x2 x3 x20 t130 h) (
n67 W R N E P x2 x3 x20 noA h)
def n69:N4:=fun W R N E P x2 x3 x15 x18 h=>
pPick x15 (.sc (.bool true)) x18 fun t131=>
n68 W R N E P x2 x3 t131 h
def n70:N3:=fun W R N E P x2 x3 x15 h=>
aIg false x15 (
pFld (some 0) x3 fun t132=>
lLd (some false) (some 1) t132 h fun t133 _=>
pBin Try.prog .eql 3 true t133 (.sc (.int .i64 2)) fun t135=>
n69 W R N E P x2 x3 x15 t135 h) (
n69 W R N E P x2 x3 x15 noA h)
def n71:N2:=fun W R N E P x2 x3 h=>
pFld (some 0) x3 fun t136=>
lLd (some false) (some 1) t136 h fun t137 _=>
pBin Try.prog .eql 3 true t137 (.sc (.int .i64 1)) fun t139=>
n70 W R N E P x2 x3 t139 h
def n72:N2:=fun W R N E P x0 x1 h=>
eBox 3 24 x0 h fun t140 h141=>
eBox 7 45 x1 h141 fun t142 h143=>
n71 W R N E P t140 t142 h143
theorem callsN{x0 x1:AV}{h:AH}{M:WK}{R:RK}(hp:n72 (fun id=>M id\/h.next<=id) (retV Try.prog [.tmp 4] R) (retV Try.prog [.tmp 4] R) (fun _ _ _=>False) (fun v h=>R (.pan v) h) x0 x1 h):ACalls Try.prog 40 [x0,x1] h M R:=
 fin (n:=142) (pl:=[(1,⟨[(none,(fr 0 4)),(some (3,false),(fr 4 3)),(none,(fr 7 2)),(some (8,false),(fr 9 3)),(none,(fr 12 2))],false,[],[]⟩),(6,⟨[(none,(fr 0 3)),(some (2,true),(fr 3 3)),(none,(fr 6 2))],false,[],[]⟩),(7,⟨[(none,(fr 0 4)),(some (3,true),(fr 4 4)),(some (7,false),(fr 8 3)),(some (3,true),(fr 11 1)),(none,(fr 12 2))],false,[],[]⟩),(11,⟨[(none,(fr 0 4)),(some (3,true),(fr 4 3)),(none,(fr 7 2))],false,[],[]⟩),(12,⟨[(none,(fr 0 4)),(some (3,true),(fr 4 3)),(none,(fr 7 2))],false,[],[]⟩),(24,⟨[(none,(fr 0 3)),(some (2,false),(fr 3 4)),(none,(fr 7 1))],false,[],[]⟩),(27,⟨[(none,(fr 0 4)),(some (3,true),(fr 4 4)),(some (7,false),(fr 8 5)),(some (3,true),(fr 13 1)),(none,(fr 14 1))],false,[],[]⟩)]) (rs:=[.tmp 4]) (L:=rs) (fun c=>(a2 n72 0 1 c)) Try.mixed Try.func40 (fun c=>
(sq (a2 n72 0 1 c)
(sn
(sq (a3 n66 2 3 5 c)
(sn
(sn
(sq (a2 n38 2 3 c)
(sn
(sn
(sn
(sn
(sn
(sl (a0 n1 c))
(sq (a1 n10 3 c)
(bk 3 (lp [3,128,129,130] rs [(3,[])] (a4 n9 3 128 129 130 c) g1_ (fun i vs h=>if i=3 then n1 c.W c.R c.N c.E c.P h else c.E i vs h) (.b (.t .o)) fun c=>
(sq (a4 n8 3 128 129 130 c)
(sn
(sn
(sm (a4 n2 3 128 129 130 c))
(bk 4 (sq (a4 n6 3 128 129 130 c)
(sq (a6 n5 3 10 11 128 129 130 c)
(cd (a5 n4 3 128 129 130 140 c) (sl (a0 n3 c)) tr)))))
(cd (a5 n7 3 128 129 130 131 c) tr tr)))))))
(sn
(cd (a2 n12 3 126 c) (sl (a0 n11 c)) tr)
(gr (gn (a2 n17 2 3 c) (gx (a3 n16 2 3 115 c) (gx (a4 n15 2 3 115 119 c) (gx (a4 n14 3 115 119 124 c) (gl (a3 n13 3 115 125 c)))))))))
(sq (a2 n28 2 3 c)
(bk 1 (lp [2,3,97,98,99] rs [(1,[2,3])] (a5 n27 2 3 97 98 99 c) g2_ (fun i vs h=>if i=1 then n17 c.W c.R c.N c.E c.P (vs.getD 0 noA) (vs.getD 1 noA) h else c.E i vs h) (.b (.t .o)) fun c=>
(sq (a5 n26 2 3 97 98 99 c)
(sn
(sn
(sm (a5 n18 2 3 97 98 99 c))
(bk 2 (sq (a5 n24 2 3 97 98 99 c)
(sn
(cd (a6 n20 2 3 97 98 99 110 c) (sl (a0 n19 c)) tr)
(gr (gn (a6 n23 2 3 9 97 98 99 c) (gx (a7 n22 2 3 9 97 98 99 105 c) (gl (a7 n21 2 3 97 98 99 105 109 c)))))))))
(cd (a6 n25 2 3 97 98 99 100 c) tr tr)))))))
(sq (a3 n31 2 3 7 c)
(cd (a3 n30 2 3 95 c) (sl (a0 n29 c)) tr)))
(sq (a3 n37 2 3 7 c)
(cd (a4 n36 2 3 7 85 c) (sq (a2 n35 2 3 c)
(sq (a3 n34 2 3 7 c)
(cd (a4 n33 2 3 7 90 c) (sl (a0 n32 c)) tr))) tr))))
(bk 0 (sn
(cd (a3 n49 2 3 32 c) (sl (a0 n39 c)) (sn
(cd (a3 n41 2 3 66 c) (sl (a0 n40 c)) tr)
(sn
(cd (a3 n45 2 3 66 c) tr (gr (gn (a2 n44 2 3 c) (gx (a3 n43 2 3 78 c) (gl (a4 n42 2 3 78 81 c))))))
(gr (gn (a2 n48 2 3 c) (gx (a3 n47 2 3 70 c) (gl (a4 n46 2 3 70 73 c))))))))
(sq (a4 n63 2 3 5 6 c)
(cd (a4 n62 2 3 6 32 c) tr (sn
(cd (a4 n58 2 3 6 32 c) tr (sn
(cd (a4 n52 2 3 6 32 c) tr (sq (a3 n51 2 3 6 c)
(cd (a3 n50 2 3 32 c) tr tr)))
(gr (gn (a3 n57 2 3 6 c) (gx (a4 n56 2 3 6 45 c) (gx (a5 n55 2 3 6 45 49 c) (gx (a6 n54 2 3 6 45 49 52 c) (gl (a5 n53 2 3 6 45 53 c)))))))))
(gr (gn (a3 n61 2 3 6 c) (gx (a4 n60 2 3 6 37 c) (gl (a5 n59 2 3 6 37 40 c)))))))))))
(sq (a4 n65 2 3 5 6 c)
(cd (a5 n64 2 3 5 6 31 c) tr tr))))
(gr (gn (a2 n71 2 3 c) (gx (a3 n70 2 3 15 c) (gn (a4 n69 2 3 15 18 c) (gx (a3 n68 2 3 20 c) (gl (a4 n67 2 3 20 23 c)))))))))) hp
attribute [simp] n1 n2 n3 n4 n5 n6 n7 n8 n10 n11 n12 n13 n14 n15 n16 n17 n18 n19 n20 n21 n22 n23 n24 n25 n26 n28 n29 n30 n31 n32 n33 n34 n35 n36 n37 n38 n39 n40 n41 n42 n43 n44 n45 n46 n47 n48 n49 n50 n51 n52 n53 n54 n55 n56 n57 n58 n59 n60 n61 n62 n63 n64 n65 n66 n67 n68 n69 n70 n71 n72
end F40
namespace F41
abbrev rs:List Nat:=[2]
def n1:N1:=fun W R _ _ P x1 h=>
pFld (some 1) x1 fun t1=>
lLd (some false) (some 1) t1 h fun t2 _=>
aCall Try.prog W 59 [t2] h (fun t4 h5=>
R [t4] h5) P
def n2:N0:=fun _ R _ _ _ h=>
R [(.sc (.int .i64 0))] h
def n3:N2:=fun W R N E P x1 x5 h=>
aIf x5 (
n2 W R N E P h) (
n1 W R N E P x1 h)
def n4:N1:=fun W R N E P x1 h=>
pFld (some 0) x1 fun t6=>
lLd (some false) (some 1) t6 h fun t7 _=>
pBin Try.prog .neq 3 true t7 (.sc (.int .i64 1)) fun t9=>
n3 W R N E P x1 t9 h
def n5:N1:=fun W R N E P x0 h=>
eBox 7 45 x0 h fun t10 h11=>
n4 W R N E P t10 h11
theorem callsN{x0:AV}{h:AH}{M:WK}{R:RK}(hp:n5 (fun id=>M id\/h.next<=id) (retV Try.prog [.tmp 2] R) (retV Try.prog [.tmp 2] R) (fun _ _ _=>False) (fun v h=>R (.pan v) h) x0 h):ACalls Try.prog 41 [x0] h M R:=
 fin (n:=9) (pl:=[]) (rs:=[.tmp 2]) (L:=rs) (fun c=>(a1 n5 0 c)) Try.mixed Try.func41 (fun c=>
(sq (a1 n5 0 c)
(sn
(sl (a1 n1 1 c))
(sq (a1 n4 1 c)
(cd (a2 n3 1 5 c) (sl (a0 n2 c)) tr))))) hp
attribute [simp] n1 n2 n3 n4 n5
end F41
end Go.Proofs.Ytbdibjgoeeokoaa
