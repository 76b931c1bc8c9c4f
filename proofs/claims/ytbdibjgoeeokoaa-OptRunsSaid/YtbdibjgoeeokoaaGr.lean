/- Bodies of the document's answer; printed. No condition. -/
import Derived.Test.YtbdibjgoeeokoaaGl
set_option maxRecDepth 100000
namespace Go.Proofs.Ytbdibjgoeeokoaa
open Go.Ab
namespace F9
abbrev rs:List Nat:=[2,3,4]
def n1:N2:=fun W R _ _ P x1 x2 h=>
lLd (some true) (some 3) x1 h fun t1 _=>
aCall Try.prog W 21 [t1,(.sc (.slice none 0 0)),(.sc (.string ⟨#[]⟩))] h (fun t3 h4=>
eStore (some 3) x2 t3 h4 W fun h5=>
R [x2,(.sc (.bool false)),(.sc (.int .i64 0))] h5) P
def n2:N3:=fun _ _ N _ _ x1 x2 x7 h=>
pBin Try.prog .add 3 true x7 (.sc (.int .i64 1)) fun t6=>
N [x1,x2,t6] h
def n3:N4:=fun _ _ N _ _ x1 x2 x7 x8 h=>
pBin Try.prog .add 3 true x8 (.sc (.int .i64 1)) fun t7=>
N [x1,x2,x7,t7] h
def n4:N4:=fun W R _ _ P x1 x2 x9 x10 h=>
lLd (some true) (some 3) x1 h fun t8 _=>
aCall Try.prog W 21 [t8,x9,x10] h (fun t10 h11=>
eStore (some 3) x2 t10 h11 W fun h12=>
R [x2,(.sc (.bool true)),(.sc (.int .i64 0))] h12) P
def n5:N7:=fun W R N E P x1 x2 x7 x8 x9 x10 x40 h=>
aIf x40 (
n4 W R N E P x1 x2 x9 x10 h) (
n3 W R N E P x1 x2 x7 x8 h)
def n6:N7:=fun W R N E P x1 x2 x7 x8 x9 x10 x11 h=>
n5 W R N E P x1 x2 x7 x8 x9 x10 x11 h
def n7:N4:=fun W R N E P x1 x2 x7 x8 h=>
lLd (some true) (some 3) x1 h fun t13 _=>
aCall Try.prog W 20 [t13,x7,x8] h (fun t15 h16=>
pExt t15 0 fun t17=>
pExt t15 1 fun t18=>
pExt t15 2 fun t19=>
n6 W R N E P x1 x2 x7 x8 t17 t18 t19 h16) P
def n8:N5:=fun W R N E P x1 x2 x7 x8 x29 h=>
aIf x29 (
n7 W R N E P x1 x2 x7 x8 h) (
E 2 [x1,x2,x7] h)
def n9:N4:=fun W R N E P x1 x2 x7 x8 h=>
pFld (some 2) x1 fun t20=>
lLd (some false) (some 1) t20 h fun t21 _=>
(strArg t21=false)/\pLen t21 fun t23=>
pBin Try.prog .lss 3 false x8 t23 fun t24=>
n8 W R N E P x1 x2 x7 x8 t24 h
def g2_:GK:=fun W R N E P N' vs h=>n9 W R N' (fun(i:Nat) (vs:List AV) (h:AH)=>if i=2 then n2 W R N E P (vs.getD 0 noA) (vs.getD 1 noA) (vs.getD 2 noA) h else if i=1 then n2 W R N E P (vs.getD 0 noA) (vs.getD 1 noA) (vs.getD 2 noA) h else E i vs h) P (vs.getD 0 noA) (vs.getD 1 noA) (vs.getD 2 noA) (vs.getD 3 noA) h
def n10:N4:=fun W R N E P x1 x2 x7 x8 h=>
vLoop (g2_ W R N E P) [x1,x2,x7,x8] h
def n11:N3:=fun W R N E P x1 x2 x7 h=>
n10 W R N E P x1 x2 x7 (.sc (.int .i64 0)) h
def n12:N4:=fun W R N E P x1 x2 x7 x22 h=>
aIf x22 (
n11 W R N E P x1 x2 x7 h) (
E 0 [x1,x2] h)
def n13:N3:=fun W R N E P x1 x2 x7 h=>
pBin Try.prog .leq 3 true x7 (.sc (.int .i64 4)) fun t25=>
n12 W R N E P x1 x2 x7 t25 h
def g1_:GK:=fun W R N E P N' vs h=>n13 W R N' (fun(i:Nat) (vs:List AV) (h:AH)=>if i=0 then n1 W R N E P (vs.getD 0 noA) (vs.getD 1 noA) h else E i vs h) P (vs.getD 0 noA) (vs.getD 1 noA) (vs.getD 2 noA) h
def n14:N3:=fun W R N E P x1 x2 x7 h=>
vLoop (g1_ W R N E P) [x1,x2,x7] h
def n15:N2:=fun W R N E P x1 x2 h=>
n14 W R N E P x1 x2 (.sc (.int .i64 1)) h
def n16:N2:=fun W R _ _ _ x2 x6 h=>
pBld (some ([.int .i64 0,.int .i64 0,.slice none 0 0],.inl [(0,1),(1,1),(2,1)])) [] fun t26=>
eStore (some 3) x2 t26 h W fun h27=>
R [x2,(.sc (.bool false)),x6] h27
def n17:N4:=fun W R N E P x1 x2 x6 x18 h=>
aIf x18 (
n16 W R N E P x2 x6 h) (
n15 W R N E P x1 x2 h)
def n18:N3:=fun W R N E P x1 x2 x6 h=>
pBin Try.prog .neq 3 true x6 (.sc (.int .i64 0)) fun t28=>
n17 W R N E P x1 x2 x6 t28 h
def n19:N2:=fun W R N E P x1 x2 h=>
lLd (some true) (some 3) x1 h fun t29 _=>
aCall Try.prog W 19 [t29] h (fun t31 h32=>
pExt t31 0 fun t33=>
pExt t31 1 fun t34=>
n18 W R N E P x1 x2 t34 h32) P
def n20:N1:=fun W R N E P x0 h=>
eBox 3 24 x0 h fun t35 h36=>
eAlloc (some [.int .i64 0,.int .i64 0,.slice none 0 0]) 3 24 h36 fun t37 h38=>
n19 W R N E P t35 t37 h38
theorem callsN{x0:AV}{h:AH}{M:WK}{R:RK}(hp:n20 (fun id=>M id\/h.next<=id) (retV Try.prog [.cell 2 24,.tmp 3,.tmp 4] R) (retV Try.prog [.cell 2 24,.tmp 3,.tmp 4] R) (fun _ _ _=>False) (fun v h=>R (.pan v) h) x0 h):ACalls Try.prog 9 [x0] h M R:=
 fin (n:=47) (pl:=[]) (rs:=[.cell 2 24,.tmp 3,.tmp 4]) (L:=rs) (fun c=>(a1 n20 0 c)) Try.mixed Try.func9 (fun c=>
(sq (a1 n20 0 c)
(sq (a2 n19 1 2 c)
(sn
(sn
(sl (a2 n1 1 2 c))
(sq (a2 n15 1 2 c)
(bk 0 (lp [1,2,7] rs [(0,[1,2])] (a3 n14 1 2 7 c) g1_ (fun i vs h=>if i=0 then n1 c.W c.R c.N c.E c.P (vs.getD 0 noA) (vs.getD 1 noA) h else c.E i vs h) (.b (.t .o)) fun c=>
(sn
(sn
(sm (a3 n2 1 2 7 c))
(bk 1 (sq (a3 n11 1 2 7 c)
(bk 2 (lp [1,2,7,8] rs [(2,[1,2,7]),(1,[1,2,7]),(0,[1,2])] (a4 n10 1 2 7 8 c) g2_ (fun i vs h=>if i=2 then n2 c.W c.R c.N c.E c.P (vs.getD 0 noA) (vs.getD 1 noA) (vs.getD 2 noA) h else if i=1 then n2 c.W c.R c.N c.E c.P (vs.getD 0 noA) (vs.getD 1 noA) (vs.getD 2 noA) h else c.E i vs h) (.b (.b (.t .o))) fun c=>
(sn
(sn
(sm (a4 n3 1 2 7 8 c))
(bk 3 (sq (a4 n7 1 2 7 8 c)
(sq (a7 n6 1 2 7 8 9 10 11 c)
(cd (a7 n5 1 2 7 8 9 10 40 c) (sl (a4 n4 1 2 9 10 c)) tr)))))
(sq (a4 n9 1 2 7 8 c)
(cd (a5 n8 1 2 7 8 29 c) tr tr))))))))
(sq (a3 n13 1 2 7 c)
(cd (a4 n12 1 2 7 22 c) tr tr)))))))
(sq (a3 n18 1 2 6 c)
(cd (a4 n17 1 2 6 18 c) (sl (a2 n16 2 6 c)) tr)))))) hp
attribute [simp] n1 n2 n3 n4 n5 n6 n7 n8 n9 n11 n12 n13 n15 n16 n17 n18 n19 n20
end F9
namespace F14
abbrev rs:List Nat:=[2,3]
def n1:N3:=fun W _ N _ _ x1 x2 x4 h=>
lLd (some true) (some 3) x4 h fun t1 _=>
eStore (some 3) x1 t1 h W fun h3=>
N [x1,x2] h3
def n2:N2:=fun W R _ _ _ x2 x4 h=>
lLd (some true) (some 3) x4 h fun t4 _=>
eStore (some 3) x2 t4 h W fun h6=>
R [x2,(.sc (.int .i64 0))] h6
def n3:N4:=fun W R N E P x1 x2 x4 x18 h=>
aIf x18 (
n2 W R N E P x2 x4 h) (
n1 W R N E P x1 x2 x4 h)
def n4:N4:=fun W R N E P x1 x2 x4 x5 h=>
pUn .not x5 fun t7=>
n3 W R N E P x1 x2 x4 t7 h
def n5:N2:=fun W R _ _ _ x2 x6 h=>
pBld (some ([.int .i64 0,.int .i64 0,.slice none 0 0],.inl [(0,1),(1,1),(2,1)])) [] fun t8=>
eStore (some 3) x2 t8 h W fun h9=>
R [x2,x6] h9
def n6:N6:=fun W R N E P x1 x2 x4 x5 x6 x14 h=>
aIf x14 (
n5 W R N E P x2 x6 h) (
n4 W R N E P x1 x2 x4 x5 h)
def n7:N5:=fun W R N E P x1 x2 x4 x5 x6 h=>
pBin Try.prog .neq 3 true x6 (.sc (.int .i64 0)) fun t10=>
n6 W R N E P x1 x2 x4 x5 x6 t10 h
def n8:N2:=fun W R N E P x1 x2 h=>
lLd (some true) (some 3) x1 h fun t11 _=>
aCall Try.prog W 9 [t11] h (fun t13 h14=>
pExt t13 0 fun t15=>
pExt t13 1 fun t16=>
pExt t13 2 fun t17=>
eAlloc (some [.int .i64 0,.int .i64 0,.slice none 0 0]) 3 24 h14 fun t18 h19=>
eStore (some 3) t18 t15 h19 W fun h20=>
n7 W R N E P x1 x2 t18 t16 t17 h20) P
def g1_:GK:=fun W R N E P N' vs h=>n8 W R N' (fun(i:Nat) (vs:List AV) (h:AH)=>if i=0 then N vs h else E i vs h) P (vs.getD 0 noA) (vs.getD 1 noA) h
def n9:N2:=fun W R N E P x1 x2 h=>
vLoop (g1_ W R N E P) [x1,x2] h
def n10:N1:=fun W R N E P x0 h=>
eBox 3 24 x0 h fun t21 h22=>
eAlloc (some [.int .i64 0,.int .i64 0,.slice none 0 0]) 3 24 h22 fun t23 h24=>
n9 W R N E P t21 t23 h24
theorem callsN{x0:AV}{h:AH}{M:WK}{R:RK}(hp:n10 (fun id=>M id\/h.next<=id) (retV Try.prog [.cell 2 24,.tmp 3] R) (retV Try.prog [.cell 2 24,.tmp 3] R) (fun _ _ _=>False) (fun v h=>R (.pan v) h) x0 h):ACalls Try.prog 14 [x0] h M R:=
 fin (n:=21) (pl:=[]) (rs:=[.cell 2 24,.tmp 3]) (L:=rs) (fun c=>(a1 n10 0 c)) Try.mixed Try.func14 (fun c=>
(sq (a1 n10 0 c)
(bk 0 (lp [1,2] rs [(0,[2,3])] (a2 n9 1 2 c) g1_ (fun i vs h=>if i=0 then c.N vs h else c.E i vs h) (.b .o) fun c=>
(bk 1 (sq (a2 n8 1 2 c)
(sn
(sn
(sm (a3 n1 1 2 4 c))
(sq (a4 n4 1 2 4 5 c)
(cd (a4 n3 1 2 4 18 c) (sl (a2 n2 2 4 c)) tr)))
(sq (a5 n7 1 2 4 5 6 c)
(cd (a6 n6 1 2 4 5 6 14 c) (sl (a2 n5 2 6 c)) tr))))))))) hp
attribute [simp] n1 n2 n3 n4 n5 n6 n7 n8 n10
end F14
namespace F20
abbrev rs:List Nat:=[6,7,8]
def n1:N0:=fun _ R _ _ _ h=>
R [(.sc (.slice none 0 0)),(.sc (.string ⟨#[]⟩)),(.sc (.bool false))] h
def n2:N3:=fun _ R _ _ _ x2 x10 x16 h=>
eBSl (some (1,3,[.int .i64 0,.int .i64 0,.int .i64 0])) 3 [(0,x2),(1,x10),(2,x16)] h fun t1 h2=>
R [t1,(.sc (.string ⟨#[122]⟩)),(.sc (.bool true))] h2
def n3:N3:=fun _ R _ _ _ x2 x10 x16 h=>
eBSl (some (1,3,[.int .i64 0,.int .i64 0,.int .i64 0])) 3 [(0,x2),(1,x10),(2,x16)] h fun t3 h4=>
R [t3,(.sc (.string ⟨#[120]⟩)),(.sc (.bool true))] h4
def n4:N4:=fun W R N E P x2 x10 x16 x125 h=>
aIf x125 (
n3 W R N E P x2 x10 x16 h) (
n1 W R N E P h)
def n5:N4:=fun W R N E P x2 x10 x16 x118 h=>
pBin Try.prog .eql 9 true x118 (.sc (.string ⟨#[122]⟩)) fun t5=>
n4 W R N E P x2 x10 x16 t5 h
def n6:N5:=fun W R N E P x2 x10 x16 x118 x119 h=>
aIf x119 (
n2 W R N E P x2 x10 x16 h) (
n5 W R N E P x2 x10 x16 x118 h)
def n7:N4:=fun W R N E P x2 x10 x16 x118 h=>
pBin Try.prog .eql 9 true x118 (.sc (.string ⟨#[120]⟩)) fun t6=>
n6 W R N E P x2 x10 x16 x118 t6 h
def n8:N4:=fun W R N E P x2 x10 x11 x16 h=>
pFld (some 1) x11 fun t7=>
lLd (some false) (some 1) t7 h fun t8 _=>
n7 W R N E P x2 x10 x16 t8 h
def n9:N0:=fun _ R _ _ _ h=>
R [(.sc (.slice none 0 0)),(.sc (.string ⟨#[]⟩)),(.sc (.bool false))] h
def n10:N5:=fun W R N E P x2 x10 x11 x16 x116 h=>
aIf x116 (
n9 W R N E P h) (
n8 W R N E P x2 x10 x11 x16 h)
def n11:N6:=fun W R N E P x2 x10 x11 x16 x108 x115 h=>
pPick x108 (.sc (.bool true)) x115 fun t10=>
n10 W R N E P x2 x10 x11 x16 t10 h
def n12:N6:=fun W R N E P x2 x3 x10 x11 x16 x108 h=>
aIg false x108 (
pFld (some 2) x3 fun t11=>
lLd (some false) (some 1) t11 h fun t12 _=>
pIxA (some (7,none)) t12 x16 fun t14=>
pFld (some 1) t14 fun t15=>
lLd (some false) (some 1) t15 h fun t16 _=>
pBin Try.prog .neq 9 true t16 (.sc (.string ⟨#[104]⟩)) fun t18=>
n11 W R N E P x2 x10 x11 x16 x108 t18 h) (
n11 W R N E P x2 x10 x11 x16 x108 noA h)
def n13:N7:=fun W R N E P x2 x3 x10 x11 x16 x103 x106 h=>
pPick x103 (.sc (.bool true)) x106 fun t19=>
n12 W R N E P x2 x3 x10 x11 x16 t19 h
def n14:N7:=fun W R N E P x2 x3 x9 x10 x11 x16 x103 h=>
aIg false x103 (
pFld (some 1) x9 fun t20=>
lLd (some false) (some 1) t20 h fun t21 _=>
pBin Try.prog .neq 9 true t21 (.sc (.string ⟨#[104]⟩)) fun t23=>
n13 W R N E P x2 x3 x10 x11 x16 x103 t23 h) (
n13 W R N E P x2 x3 x10 x11 x16 x103 noA h)
def n15:N6:=fun W R N E P x2 x3 x9 x10 x11 x16 h=>
pBin Try.prog .lss 3 true x16 (.sc (.int .i64 0)) fun t24=>
n14 W R N E P x2 x3 x9 x10 x11 x16 t24 h
def n16:N5:=fun W R N E P x2 x3 x9 x10 x11 h=>
lLd (some true) (some 3) x3 h fun t25 _=>
aCall Try.prog W 34 [t25,x10] h (fun t27 h28=>
n15 W R N E P x2 x3 x9 x10 x11 t27 h28) P
def n17:N3:=fun _ R _ _ _ x6 x7 x8 h=>
R [x6,x7,x8] h
def n18:N3:=fun W R N E P x53 x58 x65 h=>
pPick x58 x65 (.sc (.bool false)) fun t29=>
n17 W R N E P x53 (.sc (.string ⟨#[]⟩)) t29 h
def n19:N4:=fun W R N E P x9 x11 x53 x58 h=>
aIg true x58 (
pFld (some 1) x9 fun t30=>
lLd (some false) (some 1) t30 h fun t31 _=>
pFld (some 2) x9 fun t33=>
lLd (some false) (some 1) t33 h fun t34 _=>
pFld (some 2) x11 fun t36=>
lLd (some false) (some 1) t36 h fun t37 _=>
aCall Try.prog W 36 [t31,t34,t37] h (fun t39 h40=>
n18 W R N E P x53 x58 t39 h40) P) (
n18 W R N E P x53 x58 noA h)
def n20:N5:=fun W R N E P x2 x9 x10 x11 x12 h=>
eBSl (some (1,3,[.int .i64 0,.int .i64 0])) 2 [(0,x2),(1,x10)] h fun t41 h42=>
pFld (some 1) x11 fun t43=>
lLd (some false) (some 1) t43 h42 fun t44 _=>
pBin Try.prog .eql 9 false t44 x12 fun t46=>
n19 W R N E P x9 x11 t41 t46 h42
def n21:N4:=fun W R N E P x2 x9 x10 x11 h=>
pFld (some 1) x9 fun t47=>
lLd (some false) (some 1) t47 h fun t48 _=>
aCall Try.prog W 35 [t48] h (fun t50 h51=>
pExt t50 0 fun t52=>
pExt t50 1 fun t53=>
n20 W R N E P x2 x9 x10 x11 t52 h51) P
def n22:N3:=fun _ R _ _ _ x6 x7 x8 h=>
R [x6,x7,x8] h
def n23:N4:=fun W R N E P x83 x84 x92 x96 h=>
pPick x92 x96 (.sc (.bool false)) fun t54=>
n22 W R N E P x83 x84 t54 h
def n24:N4:=fun W R N E P x11 x83 x84 x92 h=>
aIg true x92 (
pFld (some 1) x11 fun t55=>
lLd (some false) (some 1) t55 h fun t56 _=>
aCall Try.prog W 38 [t56] h (fun t58 h59=>
pBin Try.prog .neq 3 true t58 (.sc (.int .i64 0)) fun t60=>
n23 W R N E P x83 x84 x92 t60 h59) P) (
n23 W R N E P x83 x84 x92 noA h)
def n25:N5:=fun W R N E P x11 x83 x84 x86 x90 h=>
pPick x86 x90 (.sc (.bool false)) fun t61=>
n24 W R N E P x11 x83 x84 t61 h
def n26:N5:=fun W R N E P x9 x11 x83 x84 x86 h=>
aIg true x86 (
pFld (some 1) x9 fun t62=>
lLd (some false) (some 1) t62 h fun t63 _=>
aCall Try.prog W 38 [t63] h (fun t65 h66=>
pBin Try.prog .neq 3 true t65 (.sc (.int .i64 0)) fun t67=>
n25 W R N E P x11 x83 x84 x86 t67 h66) P) (
n25 W R N E P x11 x83 x84 x86 noA h)
def n27:N6:=fun W R N E P x2 x9 x10 x11 x14 x15 h=>
eBSl (some (1,3,[.int .i64 0,.int .i64 0])) 2 [(0,x2),(1,x10)] h fun t68 h69=>
n26 W R N E P x9 x11 t68 x14 x15 h69
def n28:N4:=fun W R N E P x2 x9 x10 x11 h=>
∃Hd:Nat->Nat,(∀i∈[4],h.obj (Hd i)≠none)/\(
pFld (some 1) x9 fun t70=>
lLd (some false) (some 1) t70 h fun t71 _=>
pFld (some 1) x11 fun t73=>
lLd (some false) (some 1) t73 h fun t74 i75=>
(i75=Hd 4)/\(
aCall Try.prog (banL W Hd [4]) 38 [t71] h (fun t76 h77=>
aCall Try.prog W 38 [t74] h77 (fun t78 h79=>
pBin Try.prog .add 3 false t76 t78 fun t80=>
pBin Try.prog .rem 3 true t80 (.sc (.int .i64 8)) fun t81=>
aCall Try.prog W 37 [t81] h79 (fun t82 h83=>
pExt t82 0 fun t84=>
pExt t82 1 fun t85=>
n27 W R N E P x2 x9 x10 x11 t84 t85 h83) P) P) P))
def n29:N6:=fun W R N E P x2 x3 x9 x10 x11 x67 h=>
aIf x67 (
n28 W R N E P x2 x9 x10 x11 h) (
n16 W R N E P x2 x3 x9 x10 x11 h)
def n30:N6:=fun W R N E P x2 x3 x9 x10 x11 x42 h=>
pBin Try.prog .eql 3 true x42 (.sc (.int .i64 3)) fun t86=>
n29 W R N E P x2 x3 x9 x10 x11 t86 h
def n31:N7:=fun W R N E P x2 x3 x9 x10 x11 x42 x43 h=>
aIf x43 (
n21 W R N E P x2 x9 x10 x11 h) (
n30 W R N E P x2 x3 x9 x10 x11 x42 h)
def n32:N6:=fun W R N E P x2 x3 x9 x10 x11 x42 h=>
pBin Try.prog .eql 3 true x42 (.sc (.int .i64 2)) fun t87=>
n31 W R N E P x2 x3 x9 x10 x11 x42 t87 h
def n33:N6:=fun W R N E P x1 x2 x3 x9 x10 x11 h=>
n32 W R N E P x2 x3 x9 x10 x11 x1 h
def n34:N5:=fun W R N E P x1 x2 x3 x9 x10 h=>
pFld (some 2) x3 fun t88=>
lLd (some false) (some 1) t88 h fun t89 _=>
pIxA (some (7,none)) t89 x10 fun t91=>
lLd (some true) (some 7) t91 h fun t92 _=>
eAlloc (some [.int .i64 0,.string ⟨#[]⟩,.slice none 0 0,.int .i64 0,.bool false,.int .u64 0,.int .u64 0]) 7 45 h fun t94 h95=>
eStore (some 7) t94 t92 h95 W fun h96=>
n33 W R N E P x1 x2 x3 x9 x10 t94 h96
def n35:N0:=fun _ R _ _ _ h=>
R [(.sc (.slice none 0 0)),(.sc (.string ⟨#[]⟩)),(.sc (.bool false))] h
def n36:N6:=fun W R N E P x1 x2 x3 x9 x10 x36 h=>
aIf x36 (
n35 W R N E P h) (
n34 W R N E P x1 x2 x3 x9 x10 h)
def n37:N5:=fun W R N E P x1 x2 x3 x9 x10 h=>
pBin Try.prog .lss 3 true x10 (.sc (.int .i64 0)) fun t97=>
n36 W R N E P x1 x2 x3 x9 x10 t97 h
def n38:N4:=fun W R N E P x1 x2 x3 x9 h=>
lLd (some true) (some 3) x3 h fun t98 _=>
aCall Try.prog W 34 [t98,x2] h (fun t100 h101=>
n37 W R N E P x1 x2 x3 x9 t100 h101) P
def n39:N2:=fun _ R _ _ _ x2 x9 h=>
pFld (some 1) x9 fun t102=>
lLd (some false) (some 1) t102 h fun t103 _=>
pBin Try.prog .eql 9 true t103 (.sc (.string ⟨#[105]⟩)) fun t105=>
eBSl (some (1,3,[.int .i64 0])) 1 [(0,x2)] h fun t106 h107=>
R [t106,(.sc (.string ⟨#[]⟩)),t105] h107
def n40:N5:=fun W R N E P x1 x2 x3 x9 x26 h=>
aIf x26 (
n39 W R N E P x2 x9 h) (
n38 W R N E P x1 x2 x3 x9 h)
def n41:N4:=fun W R N E P x1 x2 x3 x9 h=>
pBin Try.prog .eql 3 true x1 (.sc (.int .i64 1)) fun t108=>
n40 W R N E P x1 x2 x3 x9 t108 h
def n42:N0:=fun _ R _ _ _ h=>
R [(.sc (.slice none 0 0)),(.sc (.string ⟨#[]⟩)),(.sc (.bool false))] h
def n43:N5:=fun W R N E P x1 x2 x3 x9 x24 h=>
aIf x24 (
n42 W R N E P h) (
n41 W R N E P x1 x2 x3 x9 h)
def n44:N4:=fun W R N E P x1 x2 x3 x9 h=>
pFld (some 0) x9 fun t109=>
lLd (some false) (some 1) t109 h fun t110 _=>
pBin Try.prog .neq 3 true t110 (.sc (.int .i64 1)) fun t112=>
n43 W R N E P x1 x2 x3 x9 t112 h
def n45:N3:=fun W R N E P x1 x2 x3 h=>
pFld (some 2) x3 fun t113=>
lLd (some false) (some 1) t113 h fun t114 _=>
pIxA (some (7,none)) t114 x2 fun t116=>
lLd (some true) (some 7) t116 h fun t117 _=>
eAlloc (some [.int .i64 0,.string ⟨#[]⟩,.slice none 0 0,.int .i64 0,.bool false,.int .u64 0,.int .u64 0]) 7 45 h fun t119 h120=>
eStore (some 7) t119 t117 h120 W fun h121=>
n44 W R N E P x1 x2 x3 t119 h121
def n46:N3:=fun W R N E P x0 x1 x2 h=>
eBox 3 24 x0 h fun t122 h123=>
n45 W R N E P x1 x2 t122 h123
theorem callsN{x0 x1 x2:AV}{h:AH}{M:WK}{R:RK}(hp:n46 (fun id=>M id\/h.next<=id) (retV Try.prog [.tmp 6,.tmp 7,.tmp 8] R) (retV Try.prog [.tmp 6,.tmp 7,.tmp 8] R) (fun _ _ _=>False) (fun v h=>R (.pan v) h) x0 x1 x2 h):ACalls Try.prog 20 [x0,x1,x2] h M R:=
 fin (n:=131) (pl:=[(5,⟨[(none,[(0,false),(2,false),(3,false),(4,false),(1,false),(5,false),(6,false),(7,false)])],false,[],[]⟩),(13,⟨[(none,(fr 0 8)),(some (7,true),(fr 8 7)),(none,(fr 15 4))],false,[],[]⟩),(15,⟨[(none,[(0,false),(1,false),(3,false),(4,true),(2,false),(5,false),(6,false),(7,false),(8,false),(9,false),(10,false),(11,false),(12,false),(13,false)])],true,[],[]⟩),(16,⟨[(none,(fr 0 6)),(some (5,true),(fr 6 4)),(none,(fr 10 2)),(some (11,true),(fr 12 4)),(none,(fr 16 4))],false,[],[]⟩),(18,⟨[(none,(fr 0 3)),(some (2,false),(fr 3 3)),(none,(fr 6 2)),(some (7,false),(fr 8 7)),(none,(fr 15 1))],false,[],[]⟩)]) (rs:=[.tmp 6,.tmp 7,.tmp 8]) (L:=rs) (fun c=>(a3 n46 0 1 2 c)) Try.mixed Try.func20 (fun c=>
(sq (a3 n46 0 1 2 c)
(sq (a3 n45 1 2 3 c)
(sn
(sn
(sq (a4 n38 1 2 3 9 c)
(sn
(sq (a5 n34 1 2 3 9 10 c)
(sn
(sq (a5 n16 2 3 9 10 11 c)
(sn
(sn
(sl (a0 n1 c))
(sq (a4 n8 2 10 11 16 c)
(bk 1 (sq (a4 n7 2 10 16 118 c)
(cd (a5 n6 2 10 16 118 119 c) (sl (a3 n2 2 10 16 c)) (sq (a4 n5 2 10 16 118 c)
(cd (a4 n4 2 10 16 125 c) (sl (a3 n3 2 10 16 c)) tr)))))))
(sn
(cd (a5 n10 2 10 11 16 116 c) (sl (a0 n9 c)) tr)
(gr (gn (a6 n15 2 3 9 10 11 16 c) (gx (a7 n14 2 3 9 10 11 16 103 c) (gn (a7 n13 2 3 10 11 16 103 106 c) (gx (a6 n12 2 3 10 11 16 108 c) (gl (a6 n11 2 10 11 16 108 115 c))))))))))
(sq (a6 n33 1 2 3 9 10 11 c)
(bk 0 (sq (a6 n32 2 3 9 10 11 42 c)
(cd (a7 n31 2 3 9 10 11 42 43 c) (sq (a4 n21 2 9 10 11 c)
(sn
(sm (a3 n17 6 7 8 c))
(gr (gn (a5 n20 2 9 10 11 12 c) (gx (a4 n19 9 11 53 58 c) (gl (a3 n18 53 58 65 c))))))) (sq (a6 n30 2 3 9 10 11 42 c)
(cd (a6 n29 2 3 9 10 11 67 c) (sn
(sn
(sm (a3 n22 6 7 8 c))
(gr (gn (a6 n27 2 9 10 11 14 15 c) (gx (a5 n26 9 11 83 84 86 c) (gn (a5 n25 11 83 84 86 90 c) (gx (a4 n24 11 83 84 92 c) (gl (a4 n23 83 84 92 96 c))))))))
(sm (a4 n28 2 9 10 11 c))) tr))))))))
(sq (a5 n37 1 2 3 9 10 c)
(cd (a6 n36 1 2 3 9 10 36 c) (sl (a0 n35 c)) tr))))
(sq (a4 n41 1 2 3 9 c)
(cd (a5 n40 1 2 3 9 26 c) (sl (a2 n39 2 9 c)) tr)))
(sq (a4 n44 1 2 3 9 c)
(cd (a5 n43 1 2 3 9 24 c) (sl (a0 n42 c)) tr)))))) hp
attribute [simp] n1 n2 n3 n4 n5 n6 n7 n8 n9 n10 n11 n12 n13 n14 n15 n16 n17 n18 n19 n20 n21 n22 n23 n24 n25 n26 n27 n28 n29 n30 n31 n32 n33 n34 n35 n36 n37 n38 n39 n40 n41 n42 n43 n44 n45 n46
end F20
namespace F21
abbrev rs:List Nat:=[6]
def n1:N2:=fun W R _ _ _ x6 x7 h=>
lLd (some true) (some 3) x7 h fun t1 _=>
eStore (some 3) x6 t1 h W fun h3=>
R [x6] h3
def n2:N6:=fun _ _ N _ _ x1 x2 x3 x6 x7 x8 h=>
pBin Try.prog .add 3 true x8 (.sc (.int .i64 1)) fun t4=>
N [x1,x2,x3,x6,x7,t4] h
def n3:N7:=fun W R N E P x1 x2 x3 x6 x7 x8 x11 h=>
pFld (some 2) x7 fun t5=>
lLd (some false) (some 1) t5 h fun t6 _=>
lLd (some true) (some 7) x11 h fun t8 _=>
eBSl (some (7,45,[.int .i64 0,.string ⟨#[]⟩,.slice none 0 0,.int .i64 0,.bool false,.int .u64 0,.int .u64 0])) 1 [(0,t8)] h fun t10 h11=>
eApp (some (7,80,45)) t6 t10 h11 W fun t12 h13=>
pFld (some 2) x7 fun t14=>
eStore (some 1) t14 t12 h13 W fun h15=>
n2 W R N E P x1 x2 x3 x6 x7 x8 h15
def n4:N7:=fun W R N E P x1 x2 x3 x6 x7 x8 x11 h=>
pFld (some 1) x11 fun t16=>
eStore (some 1) t16 x2 h W fun h17=>
n3 W R N E P x1 x2 x3 x6 x7 x8 x11 h17
def n5:N6:=fun W R N E P x1 x2 x3 x6 x7 x8 h=>
pFld (some 2) x3 fun t18=>
lLd (some false) (some 1) t18 h fun t19 _=>
pIxA (some (7,none)) t19 x8 fun t21=>
lLd (some true) (some 7) t21 h fun t22 _=>
aCall Try.prog W 39 [t22] h (fun t24 h25=>
eAlloc (some [.int .i64 0,.string ⟨#[]⟩,.slice none 0 0,.int .i64 0,.bool false,.int .u64 0,.int .u64 0]) 7 45 h25 fun t26 h27=>
eStore (some 7) t26 t24 h27 W fun h28=>
n4 W R N E P x1 x2 x3 x6 x7 x8 t26 h28) P
def n6:N7:=fun W R N E P x1 x2 x3 x6 x7 x8 x60 h=>
aIf x60 (
n5 W R N E P x1 x2 x3 x6 x7 x8 h) (
n2 W R N E P x1 x2 x3 x6 x7 x8 h)
def n7:N8:=fun W R N E P x1 x2 x3 x6 x7 x8 x57 x59 h=>
pPick x57 x59 (.sc (.bool false)) fun t29=>
n6 W R N E P x1 x2 x3 x6 x7 x8 t29 h
def n8:N7:=fun W R N E P x1 x2 x3 x6 x7 x8 x57 h=>
aIg true x57 (
pBin Try.prog .neq 9 true x2 (.sc (.string ⟨#[]⟩)) fun t30=>
n7 W R N E P x1 x2 x3 x6 x7 x8 x57 t30 h) (
n7 W R N E P x1 x2 x3 x6 x7 x8 x57 noA h)
def n9:N6:=fun W R N E P x1 x2 x3 x6 x7 x8 h=>
pIxA (some (1,none)) x1 (.sc (.int .i64 0)) fun t31=>
lLd (some false) (some 1) t31 h fun t32 _=>
pBin Try.prog .eql 3 false x8 t32 fun t34=>
n8 W R N E P x1 x2 x3 x6 x7 x8 t34 h
def n10:N6:=fun W R N E P x1 x2 x3 x6 x7 x8 h=>
n2 W R N E P x1 x2 x3 x6 x7 x8 h
def n11:N6:=fun W R N E P x1 x2 x3 x6 x7 x8 h=>
∃Hd:Nat->Nat,(∀i∈[1],h.obj (Hd i)≠none)/\(
pFld (some 2) x7 fun t35=>
lLd (some false) (some 1) t35 h fun t36 i37=>
(i37=Hd 1)/\(
pFld (some 2) x3 fun t38=>
lLd (some false) (some 1) t38 h fun t39 _=>
pIxA (some (7,none)) t39 x8 fun t41=>
lLd (some true) (some 7) t41 h fun t42 _=>
aCall Try.prog (banL W Hd [1]) 39 [t42] h (fun t44 h45=>
eBSl (some (7,45,[.int .i64 0,.string ⟨#[]⟩,.slice none 0 0,.int .i64 0,.bool false,.int .u64 0,.int .u64 0])) 1 [(0,t44)] h45 fun t46 h47=>
eApp (some (7,80,45)) t36 t46 h47 W fun t48 h49=>
pFld (some 2) x7 fun t50=>
eStore (some 1) t50 t48 h49 W fun h51=>
n10 W R N E P x1 x2 x3 x6 x7 x8 h51) P))
def n12:N7:=fun W R N E P x1 x2 x3 x6 x7 x8 x40 h=>
aIf x40 (
n11 W R N E P x1 x2 x3 x6 x7 x8 h) (
n9 W R N E P x1 x2 x3 x6 x7 x8 h)
def n13:N7:=fun W R N E P x1 x2 x3 x6 x7 x8 x9 h=>
pUn .not x9 fun t52=>
n12 W R N E P x1 x2 x3 x6 x7 x8 t52 h
def n14:N8:=fun _ _ N _ _ x1 x2 x3 x6 x7 x8 x9 x10 h=>
pBin Try.prog .add 3 true x10 (.sc (.int .i64 1)) fun t53=>
N [x1,x2,x3,x6,x7,x8,x9,t53] h
def n15:N9:=fun W R N E P x1 x2 x3 x6 x7 x8 x10 x31 x37 h=>
pPick x31 (.sc (.bool true)) x37 fun t54=>
n14 W R N E P x1 x2 x3 x6 x7 x8 t54 x10 h
def n16:N8:=fun W R N E P x1 x2 x3 x6 x7 x8 x10 x31 h=>
aIg false x31 (
pIxA (some (1,none)) x1 x10 fun t55=>
lLd (some false) (some 1) t55 h fun t56 _=>
pBin Try.prog .eql 3 false t56 x8 fun t58=>
n15 W R N E P x1 x2 x3 x6 x7 x8 x10 x31 t58 h) (
n15 W R N E P x1 x2 x3 x6 x7 x8 x10 x31 noA h)
def n17:N8:=fun W R N E P x1 x2 x3 x6 x7 x8 x9 x10 h=>
n16 W R N E P x1 x2 x3 x6 x7 x8 x10 x9 h
def n18:N9:=fun W R N E P x1 x2 x3 x6 x7 x8 x9 x10 x27 h=>
aIf x27 (
n17 W R N E P x1 x2 x3 x6 x7 x8 x9 x10 h) (
E 2 [x1,x2,x3,x6,x7,x8,x9] h)
def n19:N8:=fun W R N E P x1 x2 x3 x6 x7 x8 x9 x10 h=>
(strArg x1=false)/\pLen x1 fun t59=>
pBin Try.prog .lss 3 false x10 t59 fun t60=>
n18 W R N E P x1 x2 x3 x6 x7 x8 x9 x10 t60 h
def g2_:GK:=fun W R N E P N' vs h=>n19 W R N' (fun(i:Nat) (vs:List AV) (h:AH)=>if i=2 then n13 W R N E P (vs.getD 0 noA) (vs.getD 1 noA) (vs.getD 2 noA) (vs.getD 3 noA) (vs.getD 4 noA) (vs.getD 5 noA) (vs.getD 6 noA) h else if i=1 then n2 W R N E P (vs.getD 0 noA) (vs.getD 1 noA) (vs.getD 2 noA) (vs.getD 3 noA) (vs.getD 4 noA) (vs.getD 5 noA) h else E i vs h) P (vs.getD 0 noA) (vs.getD 1 noA) (vs.getD 2 noA) (vs.getD 3 noA) (vs.getD 4 noA) (vs.getD 5 noA) (vs.getD 6 noA) (vs.getD 7 noA) h
def n20:N8:=fun W R N E P x1 x2 x3 x6 x7 x8 x9 x10 h=>
vLoop (g2_ W R N E P) [x1,x2,x3,x6,x7,x8,x9,x10] h
def n21:N7:=fun W R N E P x1 x2 x3 x6 x7 x8 x9 h=>
n20 W R N E P x1 x2 x3 x6 x7 x8 x9 (.sc (.int .i64 0)) h
def n22:N6:=fun W R N E P x1 x2 x3 x6 x7 x8 h=>
n21 W R N E P x1 x2 x3 x6 x7 x8 (.sc (.bool false)) h
def n23:N7:=fun W R N E P x1 x2 x3 x6 x7 x8 x21 h=>
aIf x21 (
n22 W R N E P x1 x2 x3 x6 x7 x8 h) (
E 0 [x6,x7] h)
def n24:N6:=fun W R N E P x1 x2 x3 x6 x7 x8 h=>
pFld (some 2) x3 fun t61=>
lLd (some false) (some 1) t61 h fun t62 _=>
(strArg t62=false)/\pLen t62 fun t64=>
pBin Try.prog .lss 3 false x8 t64 fun t65=>
n23 W R N E P x1 x2 x3 x6 x7 x8 t65 h
def g1_:GK:=fun W R N E P N' vs h=>n24 W R N' (fun(i:Nat) (vs:List AV) (h:AH)=>if i=0 then n1 W R N E P (vs.getD 0 noA) (vs.getD 1 noA) h else E i vs h) P (vs.getD 0 noA) (vs.getD 1 noA) (vs.getD 2 noA) (vs.getD 3 noA) (vs.getD 4 noA) (vs.getD 5 noA) h
def n25:N6:=fun W R N E P x1 x2 x3 x6 x7 x8 h=>
vLoop (g1_ W R N E P) [x1,x2,x3,x6,x7,x8] h
def n26:N5:=fun W R N E P x1 x2 x3 x6 x7 h=>
n25 W R N E P x1 x2 x3 x6 x7 (.sc (.int .i64 0)) h
def n27:N4:=fun W R N E P x1 x2 x3 x6 h=>
pFld (some 0) x3 fun t66=>
lLd (some false) (some 1) t66 h fun t67 _=>
pFld (some 1) x3 fun t69=>
lLd (some false) (some 1) t69 h fun t70 _=>
pBld (some ([.int .i64 0,.int .i64 0,.slice none 0 0],.inl [(0,1),(1,1),(2,1)])) [(0,t67),(1,t70)] fun t72=>
eAlloc (some [.int .i64 0,.int .i64 0,.slice none 0 0]) 3 24 h fun t73 h74=>
eStore (some 3) t73 t72 h74 W fun h75=>
n26 W R N E P x1 x2 x3 x6 t73 h75
def n28:N3:=fun W R N E P x0 x1 x2 h=>
eBox 3 24 x0 h fun t76 h77=>
eAlloc (some [.int .i64 0,.int .i64 0,.slice none 0 0]) 3 24 h77 fun t78 h79=>
n27 W R N E P x1 x2 t76 t78 h79
theorem callsN{x0 x1 x2:AV}{h:AH}{M:WK}{R:RK}(hp:n28 (fun id=>M id\/h.next<=id) (retV Try.prog [.cell 6 24] R) (retV Try.prog [.cell 6 24] R) (fun _ _ _=>False) (fun v h=>R (.pan v) h) x0 x1 x2 h):ACalls Try.prog 21 [x0,x1,x2] h M R:=
 fin (n:=76) (pl:=[(9,⟨[(none,(fr 0 2)),(some (1,false),(fr 2 6)),(none,(fr 8 2))],false,[],[]⟩),(11,⟨[(none,[(0,false),(1,true),(2,false),(3,false),(4,false),(5,false),(6,false),(7,false),(8,false),(9,false),(10,false),(11,false)])],true,[],[]⟩),(12,⟨[(none,(fr 0 6)),(some (5,true),(fr 6 2)),(none,(fr 8 1))],false,[],[]⟩)]) (rs:=[.cell 6 24]) (L:=rs) (fun c=>(a3 n28 0 1 2 c)) Try.mixed Try.func21 (fun c=>
(sq (a3 n28 0 1 2 c)
(sq (a4 n27 1 2 3 6 c)
(sn
(sl (a2 n1 6 7 c))
(sq (a5 n26 1 2 3 6 7 c)
(bk 0 (lp [1,2,3,6,7,8] rs [(0,[6,7])] (a6 n25 1 2 3 6 7 8 c) g1_ (fun i vs h=>if i=0 then n1 c.W c.R c.N c.E c.P (vs.getD 0 noA) (vs.getD 1 noA) h else c.E i vs h) (.b (.t .o)) fun c=>
(sn
(sn
(sm (a6 n2 1 2 3 6 7 8 c))
(bk 1 (sq (a6 n22 1 2 3 6 7 8 c)
(sn
(sn
(sn
(cd (a7 n6 1 2 3 6 7 8 60 c) (sq (a6 n5 1 2 3 6 7 8 c)
(sq (a7 n4 1 2 3 6 7 8 11 c)
(sm (a7 n3 1 2 3 6 7 8 11 c)))) tr)
(gr (gn (a6 n9 1 2 3 6 7 8 c) (gx (a7 n8 1 2 3 6 7 8 57 c) (gl (a8 n7 1 2 3 6 7 8 57 59 c))))))
(sq (a7 n13 1 2 3 6 7 8 9 c)
(cd (a7 n12 1 2 3 6 7 8 40 c) (sn
(sm (a6 n10 1 2 3 6 7 8 c))
(sm (a6 n11 1 2 3 6 7 8 c))) tr)))
(sq (a7 n21 1 2 3 6 7 8 9 c)
(bk 2 (lp [1,2,3,6,7,8,9,10] rs [(2,[1,2,3,6,7,8,9]),(1,[1,2,3,6,7,8]),(0,[6,7])] (a8 n20 1 2 3 6 7 8 9 10 c) g2_ (fun i vs h=>if i=2 then n13 c.W c.R c.N c.E c.P (vs.getD 0 noA) (vs.getD 1 noA) (vs.getD 2 noA) (vs.getD 3 noA) (vs.getD 4 noA) (vs.getD 5 noA) (vs.getD 6 noA) h else if i=1 then n2 c.W c.R c.N c.E c.P (vs.getD 0 noA) (vs.getD 1 noA) (vs.getD 2 noA) (vs.getD 3 noA) (vs.getD 4 noA) (vs.getD 5 noA) h else c.E i vs h) (.b (.t (.b (.t .o)))) fun c=>
(sn
(sn
(sm (a8 n14 1 2 3 6 7 8 9 10 c))
(bk 3 (gr (gn (a8 n17 1 2 3 6 7 8 9 10 c) (gx (a8 n16 1 2 3 6 7 8 10 31 c) (gl (a9 n15 1 2 3 6 7 8 10 31 37 c)))))))
(sq (a8 n19 1 2 3 6 7 8 9 10 c)
(cd (a9 n18 1 2 3 6 7 8 9 10 27 c) tr tr))))))))))
(sq (a6 n24 1 2 3 6 7 8 c)
(cd (a7 n23 1 2 3 6 7 8 21 c) tr tr)))))))))) hp
attribute [simp] n1 n2 n3 n4 n5 n6 n7 n8 n9 n10 n11 n12 n13 n14 n15 n16 n17 n18 n19 n21 n22 n23 n24 n26 n27 n28
end F21
namespace F34
abbrev rs:List Nat:=[4]
def n1:N0:=fun _ R _ _ _ h=>
R [(.sc (.int .i64 (-1)))] h
def n2:N3:=fun _ _ N _ _ x2 x5 x6 h=>
pBin Try.prog .add 3 true x6 (.sc (.int .i64 1)) fun t1=>
N [x2,x5,t1] h
def n3:N0:=fun _ R _ _ _ h=>
R [(.sc (.int .i64 (-1)))] h
def n4:N4:=fun W R N E P x2 x5 x6 x47 h=>
aIf x47 (
n3 W R N E P h) (
n2 W R N E P x2 x5 x6 h)
def n5:N5:=fun W R N E P x2 x5 x6 x34 x46 h=>
pPick x34 (.sc (.bool true)) x46 fun t2=>
n4 W R N E P x2 x5 x6 t2 h
def n6:N6:=fun W R N E P x2 x5 x6 x34 x38 x45 h=>
aIg false x34 (
pPick x38 x45 (.sc (.bool false)) fun t3=>
n5 W R N E P x2 x5 x6 x34 t3 h) (
n5 W R N E P x2 x5 x6 x34 noA h)
def n7:N6:=fun W R N E P x2 x5 x6 x7 x34 x38 h=>
aIg true x38 (
pFld (some 5) x5 fun t4=>
lLd (some false) (some 1) t4 h fun t5 _=>
pFld (some 3) x7 fun t7=>
lLd (some false) (some 1) t7 h fun t8 _=>
pBin Try.prog .shr 43 false t5 t8 fun t10=>
pBin Try.prog .and 43 true t10 (.sc (.int .u64 1)) fun t11=>
pBin Try.prog .eql 43 true t11 (.sc (.int .u64 1)) fun t12=>
n6 W R N E P x2 x5 x6 x34 x38 t12 h) (
n6 W R N E P x2 x5 x6 x34 x38 noA h)
def n8:N5:=fun W R N E P x2 x5 x6 x7 x34 h=>
aIg false x34 (
pFld (some 0) x7 fun t13=>
lLd (some false) (some 1) t13 h fun t14 _=>
pBin Try.prog .eql 3 true t14 (.sc (.int .i64 2)) fun t16=>
n7 W R N E P x2 x5 x6 x7 x34 t16 h) (
n7 W R N E P x2 x5 x6 x7 x34 noA h)
def n9:N4:=fun W R N E P x2 x5 x6 x7 h=>
lLd (some true) (some 7) x5 h fun t17 _=>
lLd (some true) (some 7) x7 h fun t19 _=>
aCall Try.prog W 54 [t17,t19] h (fun t21 h22=>
n8 W R N E P x2 x5 x6 x7 t21 h22) P
def n10:N1:=fun _ R _ _ _ x6 h=>
R [x6] h
def n11:N5:=fun W R N E P x2 x5 x6 x7 x29 h=>
aIf x29 (
n10 W R N E P x6 h) (
n9 W R N E P x2 x5 x6 x7 h)
def n12:N4:=fun W R N E P x2 x5 x6 x7 h=>
lLd (some true) (some 7) x5 h fun t23 _=>
lLd (some true) (some 7) x7 h fun t25 _=>
aCall Try.prog W 53 [t23,t25] h (fun t27 h28=>
n11 W R N E P x2 x5 x6 x7 t27 h28) P
def n13:N3:=fun W R N E P x2 x5 x6 h=>
pFld (some 2) x2 fun t29=>
lLd (some false) (some 1) t29 h fun t30 _=>
pIxA (some (7,none)) t30 x6 fun t32=>
lLd (some true) (some 7) t32 h fun t33 _=>
eAlloc (some [.int .i64 0,.string ⟨#[]⟩,.slice none 0 0,.int .i64 0,.bool false,.int .u64 0,.int .u64 0]) 7 45 h fun t35 h36=>
eStore (some 7) t35 t33 h36 W fun h37=>
n12 W R N E P x2 x5 x6 t35 h37
def n14:N4:=fun W R N E P x2 x5 x6 x19 h=>
aIf x19 (
n13 W R N E P x2 x5 x6 h) (
E 0 [] h)
def n15:N3:=fun W R N E P x2 x5 x6 h=>
pFld (some 2) x2 fun t38=>
lLd (some false) (some 1) t38 h fun t39 _=>
(strArg t39=false)/\pLen t39 fun t41=>
pBin Try.prog .lss 3 false x6 t41 fun t42=>
n14 W R N E P x2 x5 x6 t42 h
def g1_:GK:=fun W R N E P N' vs h=>n15 W R N' (fun(i:Nat) (vs:List AV) (h:AH)=>if i=0 then n1 W R N E P h else E i vs h) P (vs.getD 0 noA) (vs.getD 1 noA) (vs.getD 2 noA) h
def n16:N3:=fun W R N E P x2 x5 x6 h=>
vLoop (g1_ W R N E P) [x2,x5,x6] h
def n17:N3:=fun W R N E P x1 x2 x5 h=>
pBin Try.prog .add 3 true x1 (.sc (.int .i64 1)) fun t43=>
n16 W R N E P x2 x5 t43 h
def n18:N2:=fun W R N E P x1 x2 h=>
pFld (some 2) x2 fun t44=>
lLd (some false) (some 1) t44 h fun t45 _=>
pIxA (some (7,none)) t45 x1 fun t47=>
lLd (some true) (some 7) t47 h fun t48 _=>
eAlloc (some [.int .i64 0,.string ⟨#[]⟩,.slice none 0 0,.int .i64 0,.bool false,.int .u64 0,.int .u64 0]) 7 45 h fun t50 h51=>
eStore (some 7) t50 t48 h51 W fun h52=>
n17 W R N E P x1 x2 t50 h52
def n19:N2:=fun W R N E P x0 x1 h=>
eBox 3 24 x0 h fun t53 h54=>
n18 W R N E P x1 t53 h54
theorem callsN{x0 x1:AV}{h:AH}{M:WK}{R:RK}(hp:n19 (fun id=>M id\/h.next<=id) (retV Try.prog [.tmp 4] R) (retV Try.prog [.tmp 4] R) (fun _ _ _=>False) (fun v h=>R (.pan v) h) x0 x1 h):ACalls Try.prog 34 [x0,x1] h M R:=
 fin (n:=48) (pl:=[(8,⟨[(none,(fr 0 4)),(some (3,false),(fr 4 4)),(some (7,true),(fr 8 7)),(some (3,false),(fr 15 1)),(none,(fr 16 1))],false,[],[]⟩)]) (rs:=[.tmp 4]) (L:=rs) (fun c=>(a2 n19 0 1 c)) Try.mixed Try.func34 (fun c=>
(sq (a2 n19 0 1 c)
(sq (a2 n18 1 2 c)
(sn
(sl (a0 n1 c))
(sq (a3 n17 1 2 5 c)
(bk 0 (lp [2,5,6] rs [(0,[])] (a3 n16 2 5 6 c) g1_ (fun i vs h=>if i=0 then n1 c.W c.R c.N c.E c.P h else c.E i vs h) (.b (.t .o)) fun c=>
(sn
(sn
(sm (a3 n2 2 5 6 c))
(bk 1 (sq (a3 n13 2 5 6 c)
(sn
(sn
(cd (a4 n4 2 5 6 47 c) (sl (a0 n3 c)) tr)
(gr (gn (a4 n9 2 5 6 7 c) (gx (a5 n8 2 5 6 7 34 c) (gx (a6 n7 2 5 6 7 34 38 c) (gx (a6 n6 2 5 6 34 38 45 c) (gl (a5 n5 2 5 6 34 46 c))))))))
(sq (a4 n12 2 5 6 7 c)
(cd (a5 n11 2 5 6 7 29 c) (sl (a1 n10 6 c)) tr))))))
(sq (a3 n15 2 5 6 c)
(cd (a4 n14 2 5 6 19 c) tr tr)))))))))) hp
attribute [simp] n1 n2 n3 n4 n5 n6 n7 n8 n9 n10 n11 n12 n13 n14 n15 n17 n18 n19
end F34
namespace F36
abbrev rs:List Nat:=[6]
def n1:N2:=fun W R _ _ P x1 x2 h=>
aCall Try.prog W 55 [x1,x2] h (fun t1 h2=>
R [t1] h2) P
def n2:N0:=fun _ R _ _ _ h=>
R [(.sc (.bool true))] h
def n3:N1:=fun _ R _ _ _ x6 h=>
R [x6] h
def n4:N2:=fun W R N E P x21 x25 h=>
pPick x21 (.sc (.bool true)) x25 fun t3=>
n3 W R N E P t3 h
def n5:N3:=fun W R N E P x1 x2 x21 h=>
aIg false x21 (
aCall Try.prog W 56 [x1,(.sc (.int .i64 0)),(.sc (.int .i64 1))] h (fun t4 h5=>
aCall Try.prog W 55 [t4,x2] h5 (fun t6 h7=>
n4 W R N E P x21 t6 h7) P) P) (
n4 W R N E P x21 noA h)
def n6:N2:=fun W R N E P x1 x2 h=>
aCall Try.prog W 55 [x1,x2] h (fun t8 h9=>
n5 W R N E P x1 x2 t8 h9) P
def n7:N1:=fun _ R _ _ _ x6 h=>
R [x6] h
def n8:N2:=fun W R N E P x32 x36 h=>
pPick x32 (.sc (.bool true)) x36 fun t10=>
n7 W R N E P t10 h
def n9:N3:=fun W R N E P x1 x2 x32 h=>
aIg false x32 (
aCall Try.prog W 56 [x1,(.sc (.int .i64 1)),(.sc (.int .i64 2))] h (fun t11 h12=>
aCall Try.prog W 55 [t11,x2] h12 (fun t13 h14=>
n8 W R N E P x32 t13 h14) P) P) (
n8 W R N E P x32 noA h)
def n10:N2:=fun W R N E P x1 x2 h=>
aCall Try.prog W 55 [x1,x2] h (fun t15 h16=>
n9 W R N E P x1 x2 t15 h16) P
def n11:N3:=fun W R N E P x1 x2 x27 h=>
aIf x27 (
n10 W R N E P x1 x2 h) (
n1 W R N E P x1 x2 h)
def n12:N3:=fun W R N E P x1 x2 x7 h=>
pBin Try.prog .eql 9 true x7 (.sc (.string ⟨#[99,115,119,97,112]⟩)) fun t17=>
n11 W R N E P x1 x2 t17 h
def n13:N4:=fun W R N E P x1 x2 x7 x16 h=>
aIf x16 (
n6 W R N E P x1 x2 h) (
n12 W R N E P x1 x2 x7 h)
def n14:N3:=fun W R N E P x1 x2 x7 h=>
pBin Try.prog .eql 9 true x7 (.sc (.string ⟨#[99,99,120]⟩)) fun t18=>
n13 W R N E P x1 x2 x7 t18 h
def n15:N4:=fun W R N E P x1 x2 x7 x8 h=>
aIf x8 (
n2 W R N E P h) (
n14 W R N E P x1 x2 x7 h)
def n16:N4:=fun W R N E P x1 x2 x7 x8 h=>
aIf x8 (
n15 W R N E P x1 x2 x7 x8 h) (
pBin Try.prog .eql 9 true x7 (.sc (.string ⟨#[99,99,122]⟩)) fun t19=>
n15 W R N E P x1 x2 x7 t19 h)
def n17:N3:=fun W R N E P x1 x2 x7 h=>
pBin Try.prog .eql 9 true x7 (.sc (.string ⟨#[105,115,119,97,112,100,103]⟩)) fun t20=>
n16 W R N E P x1 x2 x7 t20 h
def n18:N4:=fun W R N E P x1 x2 x7 x8 h=>
aIf x8 (
n15 W R N E P x1 x2 x7 x8 h) (
n17 W R N E P x1 x2 x7 h)
def n19:N3:=fun W R N E P x1 x2 x7 h=>
pBin Try.prog .eql 9 true x7 (.sc (.string ⟨#[105,115,119,97,112]⟩)) fun t21=>
n18 W R N E P x1 x2 x7 t21 h
def n20:N4:=fun W R N E P x1 x2 x7 x8 h=>
aIf x8 (
n15 W R N E P x1 x2 x7 x8 h) (
n19 W R N E P x1 x2 x7 h)
def n21:N3:=fun W R N E P x1 x2 x7 h=>
pBin Try.prog .eql 9 true x7 (.sc (.string ⟨#[115,119,97,112]⟩)) fun t22=>
n20 W R N E P x1 x2 x7 t22 h
def n22:N4:=fun W R N E P x1 x2 x7 x8 h=>
aIf x8 (
n15 W R N E P x1 x2 x7 x8 h) (
n21 W R N E P x1 x2 x7 h)
def n23:N3:=fun W R N E P x1 x2 x7 h=>
pBin Try.prog .eql 9 true x7 (.sc (.string ⟨#[99,115,100,103]⟩)) fun t23=>
n22 W R N E P x1 x2 x7 t23 h
def n24:N4:=fun W R N E P x1 x2 x7 x8 h=>
aIf x8 (
n15 W R N E P x1 x2 x7 x8 h) (
n23 W R N E P x1 x2 x7 h)
def n25:N3:=fun W R N E P x1 x2 x7 h=>
pBin Try.prog .eql 9 true x7 (.sc (.string ⟨#[99,115]⟩)) fun t24=>
n24 W R N E P x1 x2 x7 t24 h
def n26:N4:=fun W R N E P x1 x2 x7 x8 h=>
aIf x8 (
n15 W R N E P x1 x2 x7 x8 h) (
n25 W R N E P x1 x2 x7 h)
def n27:N3:=fun W R N E P x1 x2 x7 h=>
pBin Try.prog .eql 9 true x7 (.sc (.string ⟨#[99,122]⟩)) fun t25=>
n26 W R N E P x1 x2 x7 t25 h
def n28:N3:=fun W R N E P x0 x1 x2 h=>
n27 W R N E P x1 x2 x0 h
def n29:N3:=fun W R N E P x0 x1 x2 h=>
n28 W R N E P x0 x1 x2 h
theorem callsN{x0 x1 x2:AV}{h:AH}{M:WK}{R:RK}(hp:n29 (fun id=>M id\/h.next<=id) (retV Try.prog [.tmp 6] R) (retV Try.prog [.tmp 6] R) (fun _ _ _=>False) (fun v h=>R (.pan v) h) x0 x1 x2 h):ACalls Try.prog 36 [x0,x1,x2] h M R:=
 fin (n:=41) (pl:=[(11,⟨[(none,(fr 0 4)),(some (3,false),(fr 4 4)),(none,(fr 8 2))],false,[],[]⟩),(13,⟨[(none,(fr 0 4)),(some (3,false),(fr 4 4)),(none,(fr 8 2))],false,[],[]⟩)]) (rs:=[.tmp 6]) (L:=rs) (fun c=>(a3 n29 0 1 2 c)) Try.mixed Try.func36 (fun c=>
(sq (a3 n29 0 1 2 c)
(sn
(sl (a2 n1 1 2 c))
(sq (a3 n28 0 1 2 c)
(bk 0 (sn
(cd (a4 n15 1 2 7 8 c) (sl (a0 n2 c)) (sq (a3 n14 1 2 7 c)
(cd (a4 n13 1 2 7 16 c) (sn
(sm (a1 n3 6 c))
(gr (gn (a2 n6 1 2 c) (gx (a3 n5 1 2 21 c) (gl (a2 n4 21 25 c)))))) (sq (a3 n12 1 2 7 c)
(cd (a3 n11 1 2 27 c) (sn
(sm (a1 n7 6 c))
(gr (gn (a2 n10 1 2 c) (gx (a3 n9 1 2 32 c) (gl (a2 n8 32 36 c)))))) tr)))))
(sq (a3 n27 1 2 7 c)
(cd (a4 n26 1 2 7 8 c) tr (sq (a3 n25 1 2 7 c)
(cd (a4 n24 1 2 7 8 c) tr (sq (a3 n23 1 2 7 c)
(cd (a4 n22 1 2 7 8 c) tr (sq (a3 n21 1 2 7 c)
(cd (a4 n20 1 2 7 8 c) tr (sq (a3 n19 1 2 7 c)
(cd (a4 n18 1 2 7 8 c) tr (sq (a3 n17 1 2 7 c)
(cd (a4 n16 1 2 7 8 c) tr tr)))))))))))))))))) hp
attribute [simp] n1 n2 n3 n4 n5 n6 n7 n8 n9 n10 n11 n12 n13 n14 n15 n16 n17 n18 n19 n20 n21 n22 n23 n24 n25 n26 n27 n28 n29
end F36
namespace F37
abbrev rs:List Nat:=[2,3]
def n1:N2:=fun _ R _ _ _ x2 x3 h=>
R [x2,x3] h
def n2:N3:=fun W R N E P x9 x12 x17 h=>
pPick x12 (.sc (.bool true)) x17 fun t1=>
n1 W R N E P x9 t1 h
def n3:N4:=fun W R N E P x0 x4 x9 x12 h=>
aIg false x12 (
pIxA (some (1,none)) x4 x0 fun t2=>
lLd (some false) (some 1) t2 h fun t3 _=>
pBin Try.prog .neq 9 true t3 (.sc (.string ⟨#[]⟩)) fun t5=>
n2 W R N E P x9 x12 t5 h) (
n2 W R N E P x9 x12 noA h)
def n4:N2:=fun W R N E P x0 x4 h=>
pIxA (some (1,none)) x4 x0 fun t6=>
lLd (some false) (some 1) t6 h fun t7 _=>
pBin Try.prog .eql 3 true x0 (.sc (.int .i64 0)) fun t9=>
n3 W R N E P x0 x4 t7 t9 h
def n5:N1:=fun W R N E P x0 h=>
eBSl (some (1,9,[.string ⟨#[]⟩,.string ⟨#[]⟩,.string ⟨#[]⟩,.string ⟨#[]⟩,.string ⟨#[]⟩,.string ⟨#[]⟩,.string ⟨#[]⟩,.string ⟨#[]⟩])) 8 [(0,(.sc (.string ⟨#[]⟩))),(1,(.sc (.string ⟨#[116]⟩))),(2,(.sc (.string ⟨#[115]⟩))),(3,(.sc (.string ⟨#[]⟩))),(4,(.sc (.string ⟨#[122]⟩))),(5,(.sc (.string ⟨#[]⟩))),(6,(.sc (.string ⟨#[115,100,103]⟩))),(7,(.sc (.string ⟨#[116,100,103]⟩)))] h fun t10 h11=>
n4 W R N E P x0 t10 h11
def n6:N1:=fun W R N E P x0 h=>
n5 W R N E P x0 h
theorem callsN{x0:AV}{h:AH}{M:WK}{R:RK}(hp:n6 (fun id=>M id\/h.next<=id) (retV Try.prog [.tmp 2,.tmp 3] R) (retV Try.prog [.tmp 2,.tmp 3] R) (fun _ _ _=>False) (fun v h=>R (.pan v) h) x0 h):ACalls Try.prog 37 [x0] h M R:=
 fin (n:=19) (pl:=[(2,⟨[(none,(fr 0 7)),(some (6,false),(fr 7 5)),(none,(fr 12 3))],false,[],[]⟩)]) (rs:=[.tmp 2,.tmp 3]) (L:=rs) (fun c=>(a1 n6 0 c)) Try.mixed Try.func37 (fun c=>
(sq (a1 n6 0 c)
(sq (a1 n5 0 c)
(sn
(sm (a2 n1 2 3 c))
(gr (gn (a2 n4 0 4 c) (gx (a4 n3 0 4 9 12 c) (gl (a3 n2 9 12 17 c))))))))) hp
attribute [simp] n1 n2 n3 n4 n5 n6
end F37
namespace F38
abbrev rs:List Nat:=[2]
def n1:N0:=fun _ R _ _ _ h=>
R [(.sc (.int .i64 0))] h
def n2:N0:=fun _ R _ _ _ h=>
R [(.sc (.int .i64 1))] h
def n3:N0:=fun _ R _ _ _ h=>
R [(.sc (.int .i64 2))] h
def n4:N0:=fun _ R _ _ _ h=>
R [(.sc (.int .i64 4))] h
def n5:N0:=fun _ R _ _ _ h=>
R [(.sc (.int .i64 6))] h
def n6:N0:=fun _ R _ _ _ h=>
R [(.sc (.int .i64 7))] h
def n7:N1:=fun W R N E P x12 h=>
aIf x12 (
n6 W R N E P h) (
n1 W R N E P h)
def n8:N1:=fun W R N E P x3 h=>
pBin Try.prog .eql 9 true x3 (.sc (.string ⟨#[116,100,103]⟩)) fun t1=>
n7 W R N E P t1 h
def n9:N2:=fun W R N E P x3 x10 h=>
aIf x10 (
n5 W R N E P h) (
n8 W R N E P x3 h)
def n10:N1:=fun W R N E P x3 h=>
pBin Try.prog .eql 9 true x3 (.sc (.string ⟨#[115,100,103]⟩)) fun t2=>
n9 W R N E P x3 t2 h
def n11:N2:=fun W R N E P x3 x8 h=>
aIf x8 (
n4 W R N E P h) (
n10 W R N E P x3 h)
def n12:N1:=fun W R N E P x3 h=>
pBin Try.prog .eql 9 true x3 (.sc (.string ⟨#[122]⟩)) fun t3=>
n11 W R N E P x3 t3 h
def n13:N2:=fun W R N E P x3 x6 h=>
aIf x6 (
n3 W R N E P h) (
n12 W R N E P x3 h)
def n14:N1:=fun W R N E P x3 h=>
pBin Try.prog .eql 9 true x3 (.sc (.string ⟨#[115]⟩)) fun t4=>
n13 W R N E P x3 t4 h
def n15:N2:=fun W R N E P x3 x4 h=>
aIf x4 (
n2 W R N E P h) (
n14 W R N E P x3 h)
def n16:N1:=fun W R N E P x3 h=>
pBin Try.prog .eql 9 true x3 (.sc (.string ⟨#[116]⟩)) fun t5=>
n15 W R N E P x3 t5 h
def n17:N1:=fun W R N E P x0 h=>
n16 W R N E P x0 h
def n18:N1:=fun W R N E P x0 h=>
n17 W R N E P x0 h
theorem callsN{x0:AV}{h:AH}{M:WK}{R:RK}(hp:n18 (fun id=>M id\/h.next<=id) (retV Try.prog [.tmp 2] R) (retV Try.prog [.tmp 2] R) (fun _ _ _=>False) (fun v h=>R (.pan v) h) x0 h):ACalls Try.prog 38 [x0] h M R:=
 fin (n:=14) (pl:=[]) (rs:=[.tmp 2]) (L:=rs) (fun c=>(a1 n18 0 c)) Try.mixed Try.func38 (fun c=>
(sq (a1 n18 0 c)
(sn
(sl (a0 n1 c))
(sq (a1 n17 0 c)
(bk 0 (sq (a1 n16 3 c)
(cd (a2 n15 3 4 c) (sl (a0 n2 c)) (sq (a1 n14 3 c)
(cd (a2 n13 3 6 c) (sl (a0 n3 c)) (sq (a1 n12 3 c)
(cd (a2 n11 3 8 c) (sl (a0 n4 c)) (sq (a1 n10 3 c)
(cd (a2 n9 3 10 c) (sl (a0 n5 c)) (sq (a1 n8 3 c)
(cd (a1 n7 12 c) (sl (a0 n6 c)) tr))))))))))))))) hp
attribute [simp] n1 n2 n3 n4 n5 n6 n7 n8 n9 n10 n11 n12 n13 n14 n15 n16 n17 n18
end F38
namespace F39
abbrev rs:List Nat:=[2]
def n1:N2:=fun W R _ _ _ x1 x2 h=>
lLd (some true) (some 7) x1 h fun t1 _=>
eStore (some 7) x2 t1 h W fun h3=>
R [x2] h3
def n2:N3:=fun W R N E P x1 x2 x3 h=>
pFld (some 2) x1 fun t4=>
eStore (some 1) t4 x3 h W fun h5=>
n1 W R N E P x1 x2 h5
def n3:N3:=fun W R N E P x1 x2 x3 h=>
pFld (some 2) x1 fun t6=>
lLd (some false) (some 1) t6 h fun t7 _=>
eApp (some (1,8,3)) x3 t7 h W fun t9 h10=>
n2 W R N E P x1 x2 t9 h10
def n4:N2:=fun W R N E P x1 x2 h=>
n3 W R N E P x1 x2 (.sc (.slice none 0 0)) h
def n5:N1:=fun W R N E P x0 h=>
eBox 7 45 x0 h fun t11 h12=>
eAlloc (some [.int .i64 0,.string ⟨#[]⟩,.slice none 0 0,.int .i64 0,.bool false,.int .u64 0,.int .u64 0]) 7 45 h12 fun t13 h14=>
n4 W R N E P t11 t13 h14
theorem callsN{x0:AV}{h:AH}{M:WK}{R:RK}(hp:n5 (fun id=>M id\/h.next<=id) (retV Try.prog [.cell 2 45] R) (retV Try.prog [.cell 2 45] R) (fun _ _ _=>False) (fun v h=>R (.pan v) h) x0 h):ACalls Try.prog 39 [x0] h M R:=
 fin (n:=11) (pl:=[]) (rs:=[.cell 2 45]) (L:=rs) (fun c=>(a1 n5 0 c)) Try.mixed Try.func39 (fun c=>
(sq (a1 n5 0 c)
(sq (a2 n4 1 2 c)
(sq (a3 n3 1 2 3 c)
(sq (a3 n2 1 2 3 c)
(sl (a2 n1 1 2 c))))))) hp
attribute [simp] n1 n2 n3 n4 n5
end F39
namespace F53
abbrev rs:List Nat:=[4]
def n1:N1:=fun _ R _ _ _ x4 h=>
R [x4] h
def n2:N2:=fun W R N E P x37 x40 h=>
pPick x37 x40 (.sc (.bool false)) fun t1=>
n1 W R N E P t1 h
def n3:N3:=fun W R N E P x2 x3 x37 h=>
aIg true x37 (
lLd (some true) (some 7) x3 h fun t2 _=>
lLd (some true) (some 7) x2 h fun t4 _=>
aCall Try.prog W 72 [t2,t4] h (fun t6 h7=>
n2 W R N E P x37 t6 h7) P) (
n2 W R N E P x37 noA h)
def n4:N2:=fun W R N E P x2 x3 h=>
lLd (some true) (some 7) x2 h fun t8 _=>
lLd (some true) (some 7) x3 h fun t10 _=>
aCall Try.prog W 72 [t8,t10] h (fun t12 h13=>
n3 W R N E P x2 x3 t12 h13) P
def n5:N0:=fun _ R _ _ _ h=>
R [(.sc (.bool false))] h
def n6:N3:=fun W R N E P x2 x3 x33 h=>
aIf x33 (
n5 W R N E P h) (
n4 W R N E P x2 x3 h)
def n7:N4:=fun W R N E P x2 x3 x27 x32 h=>
pPick x27 (.sc (.bool true)) x32 fun t14=>
n6 W R N E P x2 x3 t14 h
def n8:N3:=fun W R N E P x2 x3 x27 h=>
aIg false x27 (
pFld (some 6) x2 fun t15=>
lLd (some false) (some 1) t15 h fun t16 _=>
pFld (some 6) x3 fun t18=>
lLd (some false) (some 1) t18 h fun t19 _=>
pBin Try.prog .neq 43 false t16 t19 fun t21=>
n7 W R N E P x2 x3 x27 t21 h) (
n7 W R N E P x2 x3 x27 noA h)
def n9:N4:=fun W R N E P x2 x3 x20 x25 h=>
pPick x20 (.sc (.bool true)) x25 fun t22=>
n8 W R N E P x2 x3 t22 h
def n10:N3:=fun W R N E P x2 x3 x20 h=>
aIg false x20 (
pFld (some 5) x2 fun t23=>
lLd (some false) (some 1) t23 h fun t24 _=>
pFld (some 5) x3 fun t26=>
lLd (some false) (some 1) t26 h fun t27 _=>
pBin Try.prog .neq 43 false t24 t27 fun t29=>
n9 W R N E P x2 x3 x20 t29 h) (
n9 W R N E P x2 x3 x20 noA h)
def n11:N4:=fun W R N E P x2 x3 x13 x18 h=>
pPick x13 (.sc (.bool true)) x18 fun t30=>
n10 W R N E P x2 x3 t30 h
def n12:N3:=fun W R N E P x2 x3 x13 h=>
aIg false x13 (
pFld (some 4) x2 fun t31=>
lLd (some false) (some 1) t31 h fun t32 _=>
pFld (some 4) x3 fun t34=>
lLd (some false) (some 1) t34 h fun t35 _=>
pBin Try.prog .neq 4 false t32 t35 fun t37=>
n11 W R N E P x2 x3 x13 t37 h) (
n11 W R N E P x2 x3 x13 noA h)
def n13:N4:=fun W R N E P x2 x3 x8 x11 h=>
pPick x8 (.sc (.bool true)) x11 fun t38=>
n12 W R N E P x2 x3 t38 h
def n14:N3:=fun W R N E P x2 x3 x8 h=>
aIg false x8 (
pFld (some 0) x3 fun t39=>
lLd (some false) (some 1) t39 h fun t40 _=>
pBin Try.prog .neq 3 true t40 (.sc (.int .i64 1)) fun t42=>
n13 W R N E P x2 x3 x8 t42 h) (
n13 W R N E P x2 x3 x8 noA h)
def n15:N2:=fun W R N E P x2 x3 h=>
pFld (some 0) x2 fun t43=>
lLd (some false) (some 1) t43 h fun t44 _=>
pBin Try.prog .neq 3 true t44 (.sc (.int .i64 1)) fun t46=>
n14 W R N E P x2 x3 t46 h
def n16:N2:=fun W R N E P x0 x1 h=>
eBox 7 45 x0 h fun t47 h48=>
eBox 7 45 x1 h48 fun t49 h50=>
n15 W R N E P t47 t49 h50
theorem callsN{x0 x1:AV}{h:AH}{M:WK}{R:RK}(hp:n16 (fun id=>M id\/h.next<=id) (retV Try.prog [.tmp 4] R) (retV Try.prog [.tmp 4] R) (fun _ _ _=>False) (fun v h=>R (.pan v) h) x0 x1 h):ACalls Try.prog 53 [x0,x1] h M R:=
 fin (n:=42) (pl:=[(1,⟨[(none,(fr 0 4)),(some (3,false),(fr 4 3)),(none,(fr 7 2)),(some (8,false),(fr 9 5)),(none,(fr 14 2)),(some (15,false),(fr 16 5)),(none,(fr 21 2)),(some (22,false),(fr 23 5)),(none,(fr 28 1))],false,[],[]⟩),(3,⟨[(none,(fr 0 4)),(some (3,true),(fr 4 3)),(none,(fr 7 2))],false,[],[]⟩)]) (rs:=[.tmp 4]) (L:=rs) (fun c=>(a2 n16 0 1 c)) Try.mixed Try.func53 (fun c=>
(sq (a2 n16 0 1 c)
(sn
(sn
(sm (a1 n1 4 c))
(gr (gn (a2 n4 2 3 c) (gx (a3 n3 2 3 37 c) (gl (a2 n2 37 40 c))))))
(sn
(cd (a3 n6 2 3 33 c) (sl (a0 n5 c)) tr)
(gr (gn (a2 n15 2 3 c) (gx (a3 n14 2 3 8 c) (gn (a4 n13 2 3 8 11 c) (gx (a3 n12 2 3 13 c) (gn (a4 n11 2 3 13 18 c) (gx (a3 n10 2 3 20 c) (gn (a4 n9 2 3 20 25 c) (gx (a3 n8 2 3 27 c) (gl (a4 n7 2 3 27 32 c))))))))))))))) hp
attribute [simp] n1 n2 n3 n4 n5 n6 n7 n8 n9 n10 n11 n12 n13 n14 n15 n16
end F53
namespace F54
abbrev rs:List Nat:=[4]
def n1:N0:=fun _ R _ _ _ h=>
R [(.sc (.bool false))] h
def n2:N3:=fun _ _ N _ _ x2 x3 x5 h=>
pBin Try.prog .add 3 true x5 (.sc (.int .i64 1)) fun t1=>
N [x2,x3,t1] h
def n3:N0:=fun _ R _ _ _ h=>
R [(.sc (.bool true))] h
def n4:N4:=fun W R N E P x2 x3 x5 x19 h=>
aIf x19 (
n3 W R N E P h) (
n2 W R N E P x2 x3 x5 h)
def n5:N3:=fun W R N E P x2 x3 x5 h=>
lLd (some true) (some 7) x3 h fun t2 _=>
pFld (some 2) x2 fun t4=>
lLd (some false) (some 1) t4 h fun t5 _=>
pIxA (some (1,none)) t5 x5 fun t7=>
lLd (some false) (some 1) t7 h fun t8 _=>
aCall Try.prog W 73 [t2,t8] h (fun t10 h11=>
n4 W R N E P x2 x3 x5 t10 h11) P
def n6:N4:=fun W R N E P x2 x3 x5 x10 h=>
aIf x10 (
n5 W R N E P x2 x3 x5 h) (
E 0 [] h)
def n7:N3:=fun W R N E P x2 x3 x5 h=>
pFld (some 2) x2 fun t12=>
lLd (some false) (some 1) t12 h fun t13 _=>
(strArg t13=false)/\pLen t13 fun t15=>
pBin Try.prog .lss 3 false x5 t15 fun t16=>
n6 W R N E P x2 x3 x5 t16 h
def g1_:GK:=fun W R N E P N' vs h=>n7 W R N' (fun(i:Nat) (vs:List AV) (h:AH)=>if i=0 then n1 W R N E P h else E i vs h) P (vs.getD 0 noA) (vs.getD 1 noA) (vs.getD 2 noA) h
def n8:N3:=fun W R N E P x2 x3 x5 h=>
vLoop (g1_ W R N E P) [x2,x3,x5] h
def n9:N2:=fun W R N E P x2 x3 h=>
n8 W R N E P x2 x3 (.sc (.int .i64 0)) h
def n10:N2:=fun W R N E P x0 x1 h=>
eBox 7 45 x0 h fun t17 h18=>
eBox 7 45 x1 h18 fun t19 h20=>
n9 W R N E P t17 t19 h20
theorem callsN{x0 x1:AV}{h:AH}{M:WK}{R:RK}(hp:n10 (fun id=>M id\/h.next<=id) (retV Try.prog [.tmp 4] R) (retV Try.prog [.tmp 4] R) (fun _ _ _=>False) (fun v h=>R (.pan v) h) x0 x1 h):ACalls Try.prog 54 [x0,x1] h M R:=
 fin (n:=20) (pl:=[(4,⟨[(none,(fr 0 7))],false,[],[]⟩)]) (rs:=[.tmp 4]) (L:=rs) (fun c=>(a2 n10 0 1 c)) Try.mixed Try.func54 (fun c=>
(sq (a2 n10 0 1 c)
(sn
(sl (a0 n1 c))
(sq (a2 n9 2 3 c)
(bk 0 (lp [2,3,5] rs [(0,[])] (a3 n8 2 3 5 c) g1_ (fun i vs h=>if i=0 then n1 c.W c.R c.N c.E c.P h else c.E i vs h) (.b (.t .o)) fun c=>
(sn
(sn
(sm (a3 n2 2 3 5 c))
(bk 1 (sq (a3 n5 2 3 5 c)
(cd (a4 n4 2 3 5 19 c) (sl (a0 n3 c)) tr))))
(sq (a3 n7 2 3 5 c)
(cd (a4 n6 2 3 5 10 c) tr tr))))))))) hp
attribute [simp] n1 n2 n3 n4 n5 n6 n7 n9 n10
end F54
namespace F55
abbrev rs:List Nat:=[4]
def n1:N0:=fun _ R _ _ _ h=>
R [(.sc (.bool true))] h
def n2:N3:=fun _ _ N _ _ x0 x1 x5 h=>
pBin Try.prog .add 3 true x5 (.sc (.int .i64 1)) fun t1=>
N [x0,x1,t1] h
def n3:N0:=fun _ R _ _ _ h=>
R [(.sc (.bool false))] h
def n4:N4:=fun W R N E P x0 x1 x5 x25 h=>
aIf x25 (
n3 W R N E P h) (
n2 W R N E P x0 x1 x5 h)
def n5:N3:=fun W R N E P x0 x1 x5 h=>
pIxA (some (1,none)) x0 x5 fun t2=>
lLd (some false) (some 1) t2 h fun t3 _=>
pIxA (some (1,none)) x1 x5 fun t5=>
lLd (some false) (some 1) t5 h fun t6 _=>
pBin Try.prog .neq 3 false t3 t6 fun t8=>
n4 W R N E P x0 x1 x5 t8 h
def n6:N4:=fun W R N E P x0 x1 x5 x14 h=>
aIf x14 (
n5 W R N E P x0 x1 x5 h) (
E 0 [] h)
def n7:N3:=fun W R N E P x0 x1 x5 h=>
(strArg x0=false)/\pLen x0 fun t9=>
pBin Try.prog .lss 3 false x5 t9 fun t10=>
n6 W R N E P x0 x1 x5 t10 h
def g1_:GK:=fun W R N E P N' vs h=>n7 W R N' (fun(i:Nat) (vs:List AV) (h:AH)=>if i=0 then n1 W R N E P h else E i vs h) P (vs.getD 0 noA) (vs.getD 1 noA) (vs.getD 2 noA) h
def n8:N3:=fun W R N E P x0 x1 x5 h=>
vLoop (g1_ W R N E P) [x0,x1,x5] h
def n9:N2:=fun W R N E P x0 x1 h=>
n8 W R N E P x0 x1 (.sc (.int .i64 0)) h
def n10:N0:=fun _ R _ _ _ h=>
R [(.sc (.bool false))] h
def n11:N3:=fun W R N E P x0 x1 x10 h=>
aIf x10 (
n10 W R N E P h) (
n9 W R N E P x0 x1 h)
def n12:N2:=fun W R N E P x0 x1 h=>
(strArg x0=false)/\pLen x0 fun t11=>
(strArg x1=false)/\pLen x1 fun t12=>
pBin Try.prog .neq 3 false t11 t12 fun t13=>
n11 W R N E P x0 x1 t13 h
def n13:N2:=fun W R N E P x0 x1 h=>
n12 W R N E P x0 x1 h
theorem callsN{x0 x1:AV}{h:AH}{M:WK}{R:RK}(hp:n13 (fun id=>M id\/h.next<=id) (retV Try.prog [.tmp 4] R) (retV Try.prog [.tmp 4] R) (fun _ _ _=>False) (fun v h=>R (.pan v) h) x0 x1 h):ACalls Try.prog 55 [x0,x1] h M R:=
 fin (n:=26) (pl:=[(6,⟨[(none,(fr 0 9))],false,[],[]⟩)]) (rs:=[.tmp 4]) (L:=rs) (fun c=>(a2 n13 0 1 c)) Try.mixed Try.func55 (fun c=>
(sq (a2 n13 0 1 c)
(sn
(sn
(sl (a0 n1 c))
(sq (a2 n9 0 1 c)
(bk 0 (lp [0,1,5] rs [(0,[])] (a3 n8 0 1 5 c) g1_ (fun i vs h=>if i=0 then n1 c.W c.R c.N c.E c.P h else c.E i vs h) (.b (.t .o)) fun c=>
(sn
(sn
(sm (a3 n2 0 1 5 c))
(bk 1 (sq (a3 n5 0 1 5 c)
(cd (a4 n4 0 1 5 25 c) (sl (a0 n3 c)) tr))))
(sq (a3 n7 0 1 5 c)
(cd (a4 n6 0 1 5 14 c) tr tr)))))))
(sq (a2 n12 0 1 c)
(cd (a3 n11 0 1 10 c) (sl (a0 n10 c)) tr))))) hp
attribute [simp] n1 n2 n3 n4 n5 n6 n7 n9 n10 n11 n12 n13
end F55
namespace F56
abbrev rs:List Nat:=[6]
def n1:N1:=fun _ R _ _ _ x7 h=>
R [x7] h
def n2:N3:=fun W R N E P x1 x2 x7 h=>
pIxA (some (1,none)) x7 x2 fun t1=>
lLd (some false) (some 1) t1 h fun t2 _=>
pIxA (some (1,none)) x7 x1 fun t4=>
lLd (some false) (some 1) t4 h fun t5 _=>
pIxA (some (1,none)) x7 x1 fun t7=>
eStore (some 1) t7 t2 h W fun h8=>
pIxA (some (1,none)) x7 x2 fun t9=>
eStore (some 1) t9 t5 h8 W fun h10=>
n1 W R N E P x7 h10
def n3:N4:=fun W R N E P x0 x1 x2 x7 h=>
eApp (some (1,8,3)) x7 x0 h W fun t11 h12=>
n2 W R N E P x1 x2 t11 h12
def n4:N3:=fun W R N E P x0 x1 x2 h=>
n3 W R N E P x0 x1 x2 (.sc (.slice none 0 0)) h
def n5:N3:=fun W R N E P x0 x1 x2 h=>
n4 W R N E P x0 x1 x2 h
theorem callsN{x0 x1 x2:AV}{h:AH}{M:WK}{R:RK}(hp:n5 (fun id=>M id\/h.next<=id) (retV Try.prog [.tmp 6] R) (retV Try.prog [.tmp 6] R) (fun _ _ _=>False) (fun v h=>R (.pan v) h) x0 x1 x2 h):ACalls Try.prog 56 [x0,x1,x2] h M R:=
 fin (n:=26) (pl:=[(3,⟨[(none,(fr 0 16))],false,[],[]⟩)]) (rs:=[.tmp 6]) (L:=rs) (fun c=>(a3 n5 0 1 2 c)) Try.mixed Try.func56 (fun c=>
(sq (a3 n5 0 1 2 c)
(sq (a3 n4 0 1 2 c)
(sq (a4 n3 0 1 2 7 c)
(sq (a3 n2 1 2 7 c)
(sl (a1 n1 7 c))))))) hp
attribute [simp] n1 n2 n3 n4 n5
end F56
namespace F72
abbrev rs:List Nat:=[4]
def n1:N0:=fun _ R _ _ _ h=>
R [(.sc (.bool true))] h
def n2:N3:=fun _ _ N _ _ x2 x3 x5 h=>
pBin Try.prog .add 3 true x5 (.sc (.int .i64 1)) fun t1=>
N [x2,x3,t1] h
def n3:N0:=fun _ R _ _ _ h=>
R [(.sc (.bool false))] h
def n4:N4:=fun W R N E P x2 x3 x5 x20 h=>
aIf x20 (
n3 W R N E P h) (
n2 W R N E P x2 x3 x5 h)
def n5:N3:=fun W R N E P x2 x3 x5 h=>
lLd (some true) (some 7) x3 h fun t2 _=>
pFld (some 2) x2 fun t4=>
lLd (some false) (some 1) t4 h fun t5 _=>
pIxA (some (1,none)) t5 x5 fun t7=>
lLd (some false) (some 1) t7 h fun t8 _=>
aCall Try.prog W 73 [t2,t8] h (fun t10 h11=>
pUn .not t10 fun t12=>
n4 W R N E P x2 x3 x5 t12 h11) P
def n6:N4:=fun W R N E P x2 x3 x5 x10 h=>
aIf x10 (
n5 W R N E P x2 x3 x5 h) (
E 0 [] h)
def n7:N3:=fun W R N E P x2 x3 x5 h=>
pFld (some 2) x2 fun t13=>
lLd (some false) (some 1) t13 h fun t14 _=>
(strArg t14=false)/\pLen t14 fun t16=>
pBin Try.prog .lss 3 false x5 t16 fun t17=>
n6 W R N E P x2 x3 x5 t17 h
def g1_:GK:=fun W R N E P N' vs h=>n7 W R N' (fun(i:Nat) (vs:List AV) (h:AH)=>if i=0 then n1 W R N E P h else E i vs h) P (vs.getD 0 noA) (vs.getD 1 noA) (vs.getD 2 noA) h
def n8:N3:=fun W R N E P x2 x3 x5 h=>
vLoop (g1_ W R N E P) [x2,x3,x5] h
def n9:N2:=fun W R N E P x2 x3 h=>
n8 W R N E P x2 x3 (.sc (.int .i64 0)) h
def n10:N2:=fun W R N E P x0 x1 h=>
eBox 7 45 x0 h fun t18 h19=>
eBox 7 45 x1 h19 fun t20 h21=>
n9 W R N E P t18 t20 h21
theorem callsN{x0 x1:AV}{h:AH}{M:WK}{R:RK}(hp:n10 (fun id=>M id\/h.next<=id) (retV Try.prog [.tmp 4] R) (retV Try.prog [.tmp 4] R) (fun _ _ _=>False) (fun v h=>R (.pan v) h) x0 x1 h):ACalls Try.prog 72 [x0,x1] h M R:=
 fin (n:=21) (pl:=[(4,⟨[(none,(fr 0 8))],false,[],[]⟩)]) (rs:=[.tmp 4]) (L:=rs) (fun c=>(a2 n10 0 1 c)) Try.mixed Try.func72 (fun c=>
(sq (a2 n10 0 1 c)
(sn
(sl (a0 n1 c))
(sq (a2 n9 2 3 c)
(bk 0 (lp [2,3,5] rs [(0,[])] (a3 n8 2 3 5 c) g1_ (fun i vs h=>if i=0 then n1 c.W c.R c.N c.E c.P h else c.E i vs h) (.b (.t .o)) fun c=>
(sn
(sn
(sm (a3 n2 2 3 5 c))
(bk 1 (sq (a3 n5 2 3 5 c)
(cd (a4 n4 2 3 5 20 c) (sl (a0 n3 c)) tr))))
(sq (a3 n7 2 3 5 c)
(cd (a4 n6 2 3 5 10 c) tr tr))))))))) hp
attribute [simp] n1 n2 n3 n4 n5 n6 n7 n9 n10
end F72
namespace F73
abbrev rs:List Nat:=[4]
def n1:N0:=fun _ R _ _ _ h=>
R [(.sc (.bool false))] h
def n2:N3:=fun _ _ N _ _ x1 x2 x5 h=>
pBin Try.prog .add 3 true x5 (.sc (.int .i64 1)) fun t1=>
N [x1,x2,t1] h
def n3:N0:=fun _ R _ _ _ h=>
R [(.sc (.bool true))] h
def n4:N4:=fun W R N E P x1 x2 x5 x19 h=>
aIf x19 (
n3 W R N E P h) (
n2 W R N E P x1 x2 x5 h)
def n5:N3:=fun W R N E P x1 x2 x5 h=>
pFld (some 2) x2 fun t2=>
lLd (some false) (some 1) t2 h fun t3 _=>
pIxA (some (1,none)) t3 x5 fun t5=>
lLd (some false) (some 1) t5 h fun t6 _=>
pBin Try.prog .eql 3 false t6 x1 fun t8=>
n4 W R N E P x1 x2 x5 t8 h
def n6:N4:=fun W R N E P x1 x2 x5 x10 h=>
aIf x10 (
n5 W R N E P x1 x2 x5 h) (
E 0 [] h)
def n7:N3:=fun W R N E P x1 x2 x5 h=>
pFld (some 2) x2 fun t9=>
lLd (some false) (some 1) t9 h fun t10 _=>
(strArg t10=false)/\pLen t10 fun t12=>
pBin Try.prog .lss 3 false x5 t12 fun t13=>
n6 W R N E P x1 x2 x5 t13 h
def g1_:GK:=fun W R N E P N' vs h=>n7 W R N' (fun(i:Nat) (vs:List AV) (h:AH)=>if i=0 then n1 W R N E P h else E i vs h) P (vs.getD 0 noA) (vs.getD 1 noA) (vs.getD 2 noA) h
def n8:N3:=fun W R N E P x1 x2 x5 h=>
vLoop (g1_ W R N E P) [x1,x2,x5] h
def n9:N2:=fun W R N E P x1 x2 h=>
n8 W R N E P x1 x2 (.sc (.int .i64 0)) h
def n10:N2:=fun W R N E P x0 x1 h=>
eBox 7 45 x0 h fun t14 h15=>
n9 W R N E P x1 t14 h15
theorem callsN{x0 x1:AV}{h:AH}{M:WK}{R:RK}(hp:n10 (fun id=>M id\/h.next<=id) (retV Try.prog [.tmp 4] R) (retV Try.prog [.tmp 4] R) (fun _ _ _=>False) (fun v h=>R (.pan v) h) x0 x1 h):ACalls Try.prog 73 [x0,x1] h M R:=
 fin (n:=20) (pl:=[]) (rs:=[.tmp 4]) (L:=rs) (fun c=>(a2 n10 0 1 c)) Try.mixed Try.func73 (fun c=>
(sq (a2 n10 0 1 c)
(sn
(sl (a0 n1 c))
(sq (a2 n9 1 2 c)
(bk 0 (lp [1,2,5] rs [(0,[])] (a3 n8 1 2 5 c) g1_ (fun i vs h=>if i=0 then n1 c.W c.R c.N c.E c.P h else c.E i vs h) (.b (.t .o)) fun c=>
(sn
(sn
(sm (a3 n2 1 2 5 c))
(bk 1 (sq (a3 n5 1 2 5 c)
(cd (a4 n4 1 2 5 19 c) (sl (a0 n3 c)) tr))))
(sq (a3 n7 1 2 5 c)
(cd (a4 n6 1 2 5 10 c) tr tr))))))))) hp
attribute [simp] n1 n2 n3 n4 n5 n6 n7 n9 n10
end F73
end Go.Proofs.Ytbdibjgoeeokoaa
