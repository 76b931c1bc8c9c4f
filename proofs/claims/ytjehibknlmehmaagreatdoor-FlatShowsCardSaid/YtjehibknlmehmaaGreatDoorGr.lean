/- Bodies of the document's answer and of the shows; printed. No condition. -/
import Derived.Test.YtjehibknlmehmaaGreatDoorGl
set_option maxRecDepth 100000
namespace Go.Proofs.YtjehibknlmehmaaGreatDoor
section
open Go.Ab
namespace H2
abbrev rs:List Nat:=[2,3]
def n1:N1:=fun _ R _ _ _ x4 h=>
R [x4,(.sc (.int .i64 0))] h
def n2:N0:=fun _ R _ _ _ h=>
R [(.sc (.string ⟨#[]⟩)),(.sc (.int .i64 1))] h
def n3:N2:=fun W R N E P x4 cR h=>
aE cR (
n2 W R N E P h) (
n1 W R N E P x4 h)
def n4:N1:=fun W R N E P x4 h=>
(aW x4=true)/\bL x4 fun t1=>
aa Pg .gtr 3 true t1 (.sc (.int .i64 65536)) fun t2=>
n3 W R N E P x4 t2 h
def n5:N1:=fun W R N E P x0 h=>
(aW x0=false)/\bL x0 fun t3=>
aC Pg W 26 [x0,(.sc (.int .i64 0)),t3,(.sc (.string ⟨#[]⟩))] h (fun t4 h5=>
n4 W R N E P t4 h5) P
def n6:N0:=fun _ R _ _ _ h=>
R [(.sc (.string ⟨#[]⟩)),(.sc (.int .i64 100))] h
def n7:N2:=fun W R N E P x0 x9 h=>
aE x9 (
n6 W R N E P h) (
n5 W R N E P x0 h)
def n8:N1:=fun W R N E P x0 h=>
(aW x0=false)/\bL x0 fun t6=>
aC Pg W 25 [x0,(.sc (.int .i64 0)),t6,(.sc (.int .i64 0))] h (fun t7 h8=>
e_ .not t7 fun t9=>
n7 W R N E P x0 t9 h8) P
def n9:N1:=fun W R N E P x0 h=>
n8 W R N E P x0 h
theorem aI{x0:AV}{h:AH}{M:WK}{R:RK}(hp:n9 (fun id=>M id\/h.next<=id) (aH Pg [.tmp 2,.tmp 3] R) (aH Pg [.tmp 2,.tmp 3] R) (fun _ _ _=>False) (fun v h=>R (.bV v) h) x0 h):ay Pg 13 [x0] h M R:=
 fin (n:=18) (pl:=[]) (rs:=[.tmp 2,.tmp 3]) (L:=rs) (fun c=>(a1 n9 0 c)) Tryz.mixed Tryz.func13 (fun c=>
(sq (a1 n9 0 c)
(sn
(sq (a1 n5 0 c)
(sn
(sl (a1 n1 4 c))
(sq (a1 n4 4 c)
(cd (a2 n3 4 16 c) (sl (a0 n2 c)) tr))))
(sq (a1 n8 0 c)
(cd (a2 n7 0 9 c) (sl (a0 n6 c)) tr))))) hp
attribute [simp] n1 n2 n3 n4 n5 n6 n7 n8 n9
end H2
namespace ko
abbrev rs:List Nat:=[8]
def n1:N1:=fun _ R _ _ _ x9 h=>
R [x9] h
def n2:N5:=fun _ _ N _ _ x0 x2 x3 x9 ap h=>
aa Pg .add 3 true ap (.sc (.int .i64 1)) fun t1=>
N [x0,x2,x3,x9,t1] h
def n3:N6:=fun W R N E P x0 x2 x3 x9 ap aA h=>
ag (some 4) aA fun t2=>
ai (some false) (some 1) t2 h fun t3 _=>
aa Pg .add 3 false ap t3 fun t5=>
n2 W R N E P x0 x2 x3 x9 t5 h
def n4:N7:=fun W R N E P x0 x2 x3 x9 ap aA gR h=>
aE gR (
aa Pg .add 9 true x9 (.sc (.string ⟨#[32,123,10]⟩)) fun t6=>
aa Pg .add 3 true ap (.sc (.int .i64 1)) fun t7=>
aa Pg .add 3 true ap (.sc (.int .i64 1)) fun t8=>
ag (some 4) aA fun t9=>
ai (some false) (some 1) t9 h fun t10 _=>
aa Pg .add 3 false t8 t10 fun t12=>
aa Pg .add 9 true x3 (.sc (.string ⟨#[32,32]⟩)) fun t13=>
aC Pg W 26 [x0,t7,t12,t13] h (fun t14 vD=>
aa Pg .add 9 false t6 t14 fun t16=>
aa Pg .add 9 false t16 x3 fun t17=>
aa Pg .add 9 true t17 (.sc (.string ⟨#[125,10]⟩)) fun t18=>
n3 W R N E P x0 x2 x3 t18 ap aA vD) P) (
aa Pg .add 9 true x9 (.sc (.string ⟨#[59,10]⟩)) fun t19=>
n3 W R N E P x0 x2 x3 t19 ap aA h)
def n5:N8:=fun W R N E P x0 x2 x3 x9 ap aA fD gE h=>
aJ fD (.sc (.bool true)) gE fun t20=>
n4 W R N E P x0 x2 x3 x9 ap aA t20 h
def n6:N7:=fun W R N E P x0 x2 x3 x9 ap aA fD h=>
bd false fD (
ag (some 0) aA fun t21=>
ai (some false) (some 1) t21 h fun t22 _=>
aa Pg .eql 9 true t22 (.sc (.string ⟨#[105,102]⟩)) fun t24=>
n5 W R N E P x0 x2 x3 x9 ap aA fD t24 h) (
n5 W R N E P x0 x2 x3 x9 ap aA fD ab h)
def n7:N8:=fun W R N E P x0 x2 x3 x9 ap aA fk vH h=>
aJ fk (.sc (.bool true)) vH fun t25=>
n6 W R N E P x0 x2 x3 x9 ap aA t25 h
def n8:N7:=fun W R N E P x0 x2 x3 x9 ap aA fk h=>
bd false fk (
ag (some 0) aA fun t26=>
ai (some false) (some 1) t26 h fun t27 _=>
aa Pg .eql 9 true t27 (.sc (.string ⟨#[114,101,112,101,97,116]⟩)) fun t29=>
n7 W R N E P x0 x2 x3 x9 ap aA fk t29 h) (
n7 W R N E P x0 x2 x3 x9 ap aA fk ab h)
def n9:N6:=fun W R N E P x0 x2 x3 x9 ap aA h=>
ag (some 0) aA fun t30=>
ai (some false) (some 1) t30 h fun t31 _=>
aa Pg .eql 9 true t31 (.sc (.string ⟨#[103,97,116,101]⟩)) fun t33=>
n8 W R N E P x0 x2 x3 x9 ap aA t33 h
def aP:N6:=fun W R N E P x0 x2 x3 x9 ap aA h=>
aa Pg .add 9 false x9 x3 fun t34=>
ai (some true) (some 6) aA h fun t35 _=>
aC Pg W 43 [t35] h (fun t37 Hu=>
aa Pg .add 9 false t34 t37 fun t39=>
n9 W R N E P x0 x2 x3 t39 ap aA Hu) P
def aU:N5:=fun W R N E P x0 x2 x3 x9 ap h=>
bM (some (6,none)) x0 ap fun t40=>
ai (some true) (some 6) t40 h fun t41 _=>
bH (some [.string ⟨#[]⟩,.string ⟨#[]⟩,.slice none 0 0,.int .i64 0,.int .i64 0,.int .i64 0]) 6 46 h fun t43 qL=>
aG (some 6) t43 t41 qL W fun vu=>
aP W R N E P x0 x2 x3 x9 ap t43 vu
def aQ:N6:=fun W R N E P x0 x2 x3 x9 ap dn h=>
aE dn (
aU W R N E P x0 x2 x3 x9 ap h) (
E 0 [x9] h)
def a_:N5:=fun W R N E P x0 x2 x3 x9 ap h=>
aa Pg .lss 3 false ap x2 fun t46=>
aQ W R N E P x0 x2 x3 x9 ap t46 h
def cn:GK:=fun W R N E P N' vs h=>a_ W R N' (fun(i:Nat) (vs:List AV) (h:AH)=>if i=0 then n1 W R N E P (vs.getD 0 ab) h else E i vs h) P (vs.getD 0 ab) (vs.getD 1 ab) (vs.getD 2 ab) (vs.getD 3 ab) (vs.getD 4 ab) h
def bn:N5:=fun W R N E P x0 x2 x3 x9 ap h=>
da (cn W R N E P) [x0,x2,x3,x9,ap] h
def bj:N5:=fun W R N E P x0 x1 x2 x3 x9 h=>
bn W R N E P x0 x2 x3 x9 x1 h
def aZ:N4:=fun W R N E P x0 x1 x2 x3 h=>
bj W R N E P x0 x1 x2 x3 (.sc (.string ⟨#[]⟩)) h
def bg:N4:=fun W R N E P x0 x1 x2 x3 h=>
aZ W R N E P x0 x1 x2 x3 h
theorem aI{x0 x1 x2 x3:AV}{h:AH}{M:WK}{R:RK}(hp:bg (fun id=>M id\/h.next<=id) (aH Pg [.tmp 8] R) (aH Pg [.tmp 8] R) (fun _ _ _=>False) (fun v h=>R (.bV v) h) x0 x1 x2 x3 h):ay Pg 26 [x0,x1,x2,x3] h M R:=
 fin (n:=65) (pl:=[(7,⟨[(none,(fr 0 4)),(some (3,false),(fr 4 3)),(none,(fr 7 2)),(some (8,false),(fr 9 3)),(none,(fr 12 1))],false,[],[]⟩)]) (rs:=[.tmp 8]) (L:=rs) (fun c=>(a4 bg 0 1 2 3 c)) Tryz.mixed Tryz.func26 (fun c=>
(sq (a4 bg 0 1 2 3 c)
(sq (a4 aZ 0 1 2 3 c)
(sn
(sl (a1 n1 9 c))
(sq (a5 bj 0 1 2 3 9 c)
(bk 0 (lp [0,2,3,9,10] rs [(0,[9])] (a5 bn 0 2 3 9 10 c) cn (fun i vs h=>if i=0 then n1 c.W c.R c.N c.E c.P (vs.getD 0 ab) h else c.E i vs h) (.b (.t .o)) fun c=>
(sn
(sn
(sm (a5 n2 0 2 3 9 10 c))
(bk 1 (sq (a5 aU 0 2 3 9 10 c)
(sq (a6 aP 0 2 3 9 10 11 c)
(sn
(sm (a6 n3 0 2 3 9 10 11 c))
(sn
(cd (a7 n4 0 2 3 9 10 11 40 c) tr tr)
(gr (gn (a6 n9 0 2 3 9 10 11 c) (gx (a7 n8 0 2 3 9 10 11 31 c) (gn (a8 n7 0 2 3 9 10 11 31 34 c) (gx (a7 n6 0 2 3 9 10 11 36 c) (gl (a8 n5 0 2 3 9 10 11 36 39 c)))))))))))))
(sq (a5 a_ 0 2 3 9 10 c)
(cd (a6 aQ 0 2 3 9 10 15 c) tr tr)))))))))) hp
attribute [simp] n1 n2 n3 n4 n5 n6 n7 n8 n9 aP aU aQ a_ bj aZ bg
end ko
namespace ie
abbrev rs:List Nat:=[8]
def n1:N0:=fun _ R _ _ _ h=>
R [(.sc (.bool true))] h
def n2:N4:=fun _ _ N _ _ x0 x2 x3 x9 h=>
aa Pg .add 3 true x9 (.sc (.int .i64 1)) fun t1=>
N [x0,x2,x3,t1] h
def n3:N5:=fun W R N E P x0 x2 x3 x9 ap h=>
ag (some 4) ap fun t2=>
ai (some false) (some 1) t2 h fun t3 _=>
aa Pg .add 3 false x9 t3 fun t5=>
n2 W R N E P x0 x2 x3 t5 h
def n4:N0:=fun _ R _ _ _ h=>
R [(.sc (.bool false))] h
def n5:N6:=fun W R N E P x0 x2 x3 x9 ap Ag h=>
aE Ag (
n4 W R N E P h) (
n3 W R N E P x0 x2 x3 x9 ap h)
def n6:N7:=fun W R N E P x0 x2 x3 x9 ap fC pS h=>
aJ fC pS (.sc (.bool false)) fun t6=>
n5 W R N E P x0 x2 x3 x9 ap t6 h
def n7:N6:=fun W R N E P x0 x2 x3 x9 ap fC h=>
bd true fC (
aa Pg .add 3 true x3 (.sc (.int .i64 1)) fun t7=>
aa Pg .gtr 3 true t7 (.sc (.int .i64 32)) fun t8=>
n6 W R N E P x0 x2 x3 x9 ap fC t8 h) (
n6 W R N E P x0 x2 x3 x9 ap fC ab h)
def n8:N7:=fun W R N E P x0 x2 x3 x9 ap pT JB h=>
aJ pT (.sc (.bool true)) JB fun t9=>
n7 W R N E P x0 x2 x3 x9 ap t9 h
def n9:N6:=fun W R N E P x0 x2 x3 x9 ap pT h=>
bd false pT (
ag (some 0) ap fun t10=>
ai (some false) (some 1) t10 h fun t11 _=>
aa Pg .eql 9 true t11 (.sc (.string ⟨#[105,102]⟩)) fun t13=>
n8 W R N E P x0 x2 x3 x9 ap pT t13 h) (
n8 W R N E P x0 x2 x3 x9 ap pT ab h)
def aP:N7:=fun W R N E P x0 x2 x3 x9 ap lU iH h=>
aJ lU (.sc (.bool true)) iH fun t14=>
n9 W R N E P x0 x2 x3 x9 ap t14 h
def aU:N6:=fun W R N E P x0 x2 x3 x9 ap lU h=>
bd false lU (
ag (some 0) ap fun t15=>
ai (some false) (some 1) t15 h fun t16 _=>
aa Pg .eql 9 true t16 (.sc (.string ⟨#[114,101,112,101,97,116]⟩)) fun t18=>
aP W R N E P x0 x2 x3 x9 ap lU t18 h) (
aP W R N E P x0 x2 x3 x9 ap lU ab h)
def aQ:N5:=fun W R N E P x0 x2 x3 x9 ap h=>
ag (some 0) ap fun t19=>
ai (some false) (some 1) t19 h fun t20 _=>
aa Pg .eql 9 true t20 (.sc (.string ⟨#[103,97,116,101]⟩)) fun t22=>
aU W R N E P x0 x2 x3 x9 ap t22 h
def a_:N0:=fun _ R _ _ _ h=>
R [(.sc (.bool false))] h
def bn:N6:=fun W R N E P x0 x2 x3 x9 ap cL h=>
aE cL (
a_ W R N E P h) (
aQ W R N E P x0 x2 x3 x9 ap h)
def bj:N7:=fun W R N E P x0 x2 x3 x9 ap gR kQ h=>
aJ gR (.sc (.bool true)) kQ fun t23=>
bn W R N E P x0 x2 x3 x9 ap t23 h
def aZ:N6:=fun W R N E P x0 x2 x3 x9 ap gR h=>
bd false gR (
aa Pg .add 3 true x9 (.sc (.int .i64 1)) fun t24=>
aa Pg .add 3 true x9 (.sc (.int .i64 1)) fun t25=>
ag (some 4) ap fun t26=>
ai (some false) (some 1) t26 h fun t27 _=>
aa Pg .add 3 false t25 t27 fun t29=>
aa Pg .add 3 true x3 (.sc (.int .i64 1)) fun t30=>
aC Pg W 25 [x0,t24,t29,t30] h (fun t31 qi=>
e_ .not t31 fun t33=>
bj W R N E P x0 x2 x3 x9 ap gR t33 qi) P) (
bj W R N E P x0 x2 x3 x9 ap gR ab h)
def bg:N7:=fun W R N E P x0 x2 x3 x9 ap fk eK h=>
aJ fk (.sc (.bool true)) eK fun t34=>
aZ W R N E P x0 x2 x3 x9 ap t34 h
def bu:N6:=fun W R N E P x0 x2 x3 x9 ap fk h=>
bd false fk (
ag (some 4) ap fun t35=>
ai (some false) (some 1) t35 h fun t36 _=>
aa Pg .sub 3 false x2 x9 fun t38=>
aa Pg .sub 3 true t38 (.sc (.int .i64 1)) fun t39=>
aa Pg .gtr 3 false t36 t39 fun t40=>
bg W R N E P x0 x2 x3 x9 ap fk t40 h) (
bg W R N E P x0 x2 x3 x9 ap fk ab h)
def bz:N5:=fun W R N E P x0 x2 x3 x9 ap h=>
ai (some true) (some 6) ap h fun t41 _=>
aC Pg W 42 [t41] h (fun t43 qL=>
e_ .not t43 fun t45=>
bu W R N E P x0 x2 x3 x9 ap t45 qL) P
def bC:N4:=fun W R N E P x0 x2 x3 x9 h=>
bM (some (6,none)) x0 x9 fun t46=>
ai (some true) (some 6) t46 h fun t47 _=>
bH (some [.string ⟨#[]⟩,.string ⟨#[]⟩,.slice none 0 0,.int .i64 0,.int .i64 0,.int .i64 0]) 6 46 h fun t49 sP=>
aG (some 6) t49 t47 sP W fun yw=>
bz W R N E P x0 x2 x3 x9 t49 yw
def bE:N5:=fun W R N E P x0 x2 x3 x9 lh h=>
aE lh (
bC W R N E P x0 x2 x3 x9 h) (
E 0 [] h)
def bG:N4:=fun W R N E P x0 x2 x3 x9 h=>
aa Pg .lss 3 false x9 x2 fun t52=>
bE W R N E P x0 x2 x3 x9 t52 h
def cn:GK:=fun W R N E P N' vs h=>bG W R N' (fun(i:Nat) (vs:List AV) (h:AH)=>if i=0 then n1 W R N E P h else E i vs h) P (vs.getD 0 ab) (vs.getD 1 ab) (vs.getD 2 ab) (vs.getD 3 ab) h
def bD:N4:=fun W R N E P x0 x2 x3 x9 h=>
da (cn W R N E P) [x0,x2,x3,x9] h
def bZ:N4:=fun W R N E P x0 x1 x2 x3 h=>
bD W R N E P x0 x2 x3 x1 h
def bY:N0:=fun _ R _ _ _ h=>
R [(.sc (.bool false))] h
def bT:N5:=fun W R N E P x0 x1 x2 x3 jy h=>
aE jy (
bY W R N E P h) (
bZ W R N E P x0 x1 x2 x3 h)
def bW:N6:=fun W R N E P x0 x1 x2 x3 cg cR h=>
aJ cg cR (.sc (.bool false)) fun t53=>
bT W R N E P x0 x1 x2 x3 t53 h
def cj:N5:=fun W R N E P x0 x1 x2 x3 cg h=>
bd true cg (
aa Pg .gtr 3 true x3 (.sc (.int .i64 32)) fun t54=>
bW W R N E P x0 x1 x2 x3 cg t54 h) (
bW W R N E P x0 x1 x2 x3 cg ab h)
def cq:N4:=fun W R N E P x0 x1 x2 x3 h=>
aa Pg .lss 3 false x1 x2 fun t55=>
cj W R N E P x0 x1 x2 x3 t55 h
def cN:N4:=fun W R N E P x0 x1 x2 x3 h=>
cq W R N E P x0 x1 x2 x3 h
theorem aI{x0 x1 x2 x3:AV}{h:AH}{M:WK}{R:RK}(hp:cN (fun id=>M id\/h.next<=id) (aH Pg [.tmp 8] R) (aH Pg [.tmp 8] R) (fun _ _ _=>False) (fun v h=>R (.bV v) h) x0 x1 x2 x3 h):ay Pg 25 [x0,x1,x2,x3] h M R:=
 fin (n:=76) (pl:=[(1,⟨[(none,(fr 0 4)),(some (3,true),(fr 4 2)),(none,(fr 6 1))],false,[],[]⟩),(7,⟨[(none,(fr 0 4)),(some (3,false),(fr 4 7)),(none,(fr 11 2)),(some (12,false),(fr 13 12)),(none,(fr 25 1))],false,[],[]⟩),(9,⟨[(none,(fr 0 4)),(some (3,false),(fr 4 3)),(none,(fr 7 2)),(some (8,false),(fr 9 3)),(none,(fr 12 2)),(some (13,true),(fr 14 3)),(none,(fr 17 1))],false,[],[]⟩)]) (rs:=[.tmp 8]) (L:=rs) (fun c=>(a4 cN 0 1 2 3 c)) Tryz.mixed Tryz.func25 (fun c=>
(sq (a4 cN 0 1 2 3 c)
(sn
(sn
(sl (a0 n1 c))
(sq (a4 bZ 0 1 2 3 c)
(bk 0 (lp [0,2,3,9] rs [(0,[])] (a4 bD 0 2 3 9 c) cn (fun i vs h=>if i=0 then n1 c.W c.R c.N c.E c.P h else c.E i vs h) (.b (.t .o)) fun c=>
(sn
(sn
(sm (a4 n2 0 2 3 9 c))
(bk 1 (sq (a4 bC 0 2 3 9 c)
(sn
(sn
(sm (a5 n3 0 2 3 9 10 c))
(sn
(cd (a6 n5 0 2 3 9 10 71 c) (sl (a0 n4 c)) tr)
(gr (gn (a5 aQ 0 2 3 9 10 c) (gx (a6 aU 0 2 3 9 10 57 c) (gn (a7 aP 0 2 3 9 10 57 60 c) (gx (a6 n9 0 2 3 9 10 62 c) (gn (a7 n8 0 2 3 9 10 62 65 c) (gx (a6 n7 0 2 3 9 10 67 c) (gl (a7 n6 0 2 3 9 10 67 70 c)))))))))))
(sn
(cd (a6 bn 0 2 3 9 10 53 c) (sl (a0 a_ c)) tr)
(gr (gn (a5 bz 0 2 3 9 10 c) (gx (a6 bu 0 2 3 9 10 31 c) (gn (a7 bg 0 2 3 9 10 31 38 c) (gx (a6 aZ 0 2 3 9 10 40 c) (gl (a7 bj 0 2 3 9 10 40 52 c))))))))))))
(sq (a4 bG 0 2 3 9 c)
(cd (a5 bE 0 2 3 9 21 c) tr tr)))))))
(sn
(cd (a5 bT 0 1 2 3 17 c) (sl (a0 bY c)) tr)
(gr (gn (a4 cq 0 1 2 3 c) (gx (a5 cj 0 1 2 3 14 c) (gl (a6 bW 0 1 2 3 14 16 c))))))))) hp
attribute [simp] n1 n2 n3 n4 n5 n6 n7 n8 n9 aP aU aQ a_ bn bj aZ bg bu bz bC bE bG bZ bY bT bW cj cq cN
end ie
namespace iw
abbrev rs:List Nat:=[2]
def n1:N2:=fun W R _ _ P x1 x6 h=>
ag (some 2) x1 fun t1=>
ai (some false) (some 1) t1 h fun t2 _=>
ag (some 0) x1 fun t4=>
ai (some false) (some 1) t4 h fun t5 _=>
aa Pg .neq 9 true t5 (.sc (.string ⟨#[103,97,116,101]⟩)) fun t7=>
aC Pg W 74 [t2,x6,t7] h (fun t8 h9=>
R [t8] h9) P
def n2:N0:=fun _ R _ _ _ h=>
R [(.sc (.bool false))] h
def n3:N3:=fun W R N E P x1 x6 fL h=>
aE fL (
n2 W R N E P h) (
n1 W R N E P x1 x6 h)
def n4:N4:=fun W R N E P x1 x6 iH fC h=>
aJ iH (.sc (.bool true)) fC fun t10=>
n3 W R N E P x1 x6 t10 h
def n5:N5:=fun W R N E P x1 x6 iH oe n_ h=>
bd false iH (
aJ oe n_ (.sc (.bool false)) fun t11=>
n4 W R N E P x1 x6 iH t11 h) (
n4 W R N E P x1 x6 iH ab h)
def n6:N4:=fun W R N E P x1 x6 iH oe h=>
bd true oe (
ag (some 3) x1 fun t12=>
ai (some false) (some 1) t12 h fun t13 _=>
aa Pg .neq 3 true t13 (.sc (.int .i64 0)) fun t15=>
n5 W R N E P x1 x6 iH oe t15 h) (
n5 W R N E P x1 x6 iH oe ab h)
def n7:N4:=fun W R N E P x1 x4 x6 iH h=>
bd false iH (
e_ .not x4 fun t16=>
n6 W R N E P x1 x6 iH t16 h) (
n6 W R N E P x1 x6 iH ab h)
def n8:N5:=fun W R N E P x1 x4 x6 cA Ai h=>
aJ cA (.sc (.bool true)) Ai fun t17=>
n7 W R N E P x1 x4 x6 t17 h
def n9:N4:=fun W R N E P x1 x4 x6 cA h=>
bd false cA (
ag (some 3) x1 fun t18=>
ai (some false) (some 1) t18 h fun t19 _=>
aa Pg .gtr 3 true t19 (.sc (.int .i64 9007199254740991)) fun t21=>
n8 W R N E P x1 x4 x6 cA t21 h) (
n8 W R N E P x1 x4 x6 cA ab h)
def aP:N3:=fun W R N E P x1 x4 x6 h=>
ag (some 3) x1 fun t22=>
ai (some false) (some 1) t22 h fun t23 _=>
aa Pg .lss 3 true t23 (.sc (.int .i64 0)) fun t25=>
n9 W R N E P x1 x4 x6 t25 h
def aU:N0:=fun _ R _ _ _ h=>
R [(.sc (.bool false))] h
def aQ:N4:=fun W R N E P x1 x4 x6 D4 h=>
aE D4 (
aU W R N E P h) (
aP W R N E P x1 x4 x6 h)
def a_:N5:=fun W R N E P x1 x4 x6 fj lf h=>
aJ fj (.sc (.bool true)) lf fun t26=>
aQ W R N E P x1 x4 x6 t26 h
def bn:N6:=fun W R N E P x1 x4 x6 fj rz iI h=>
bd false fj (
aJ rz iI (.sc (.bool false)) fun t27=>
a_ W R N E P x1 x4 x6 fj t27 h) (
a_ W R N E P x1 x4 x6 fj ab h)
def bj:N5:=fun W R N E P x1 x4 x6 fj rz h=>
bd true rz (
ag (some 4) x1 fun t28=>
ai (some false) (some 1) t28 h fun t29 _=>
aa Pg .neq 3 true t29 (.sc (.int .i64 0)) fun t31=>
bn W R N E P x1 x4 x6 fj rz t31 h) (
bn W R N E P x1 x4 x6 fj rz ab h)
def aZ:N5:=fun W R N E P x1 x4 x5 x6 fj h=>
bd false fj (
e_ .not x5 fun t32=>
bj W R N E P x1 x4 x6 fj t32 h) (
bj W R N E P x1 x4 x6 fj ab h)
def bg:N6:=fun W R N E P x1 x4 x5 x6 eK iO h=>
aJ eK (.sc (.bool true)) iO fun t33=>
aZ W R N E P x1 x4 x5 x6 t33 h
def bu:N5:=fun W R N E P x1 x4 x5 x6 eK h=>
bd false eK (
ag (some 4) x1 fun t34=>
ai (some false) (some 1) t34 h fun t35 _=>
aa Pg .lss 3 true t35 (.sc (.int .i64 0)) fun t37=>
bg W R N E P x1 x4 x5 x6 eK t37 h) (
bg W R N E P x1 x4 x5 x6 eK ab h)
def bz:N6:=fun W R N E P x1 x4 x5 x6 eE fD h=>
aJ eE (.sc (.bool true)) fD fun t38=>
bu W R N E P x1 x4 x5 x6 t38 h
def bC:N7:=fun W R N E P x1 x4 x5 x6 eE fk kR h=>
bd false eE (
aJ fk kR (.sc (.bool false)) fun t39=>
bz W R N E P x1 x4 x5 x6 eE t39 h) (
bz W R N E P x1 x4 x5 x6 eE ab h)
def bE:N6:=fun W R N E P x1 x4 x5 x6 eE fk h=>
bd true fk (
ag (some 1) x1 fun t40=>
ai (some false) (some 1) t40 h fun t41 _=>
aC Pg W 73 [t41] h (fun t43 qL=>
e_ .not t43 fun t45=>
bC W R N E P x1 x4 x5 x6 eE fk t45 qL) P) (
bC W R N E P x1 x4 x5 x6 eE fk ab h)
def bG:N6:=fun W R N E P x1 x3 x4 x5 x6 eE h=>
bd false eE (
bE W R N E P x1 x4 x5 x6 eE x3 h) (
bE W R N E P x1 x4 x5 x6 eE ab h)
def bD:N5:=fun W R N E P x1 x3 x4 x5 x6 h=>
ag (some 1) x1 fun t46=>
ai (some false) (some 1) t46 h fun t47 _=>
aa Pg .neq 9 true t47 (.sc (.string ⟨#[]⟩)) fun t49=>
aa Pg .neq 4 false x3 t49 fun t50=>
bG W R N E P x1 x3 x4 x5 x6 t50 h
def bZ:N0:=fun _ R _ _ _ h=>
R [(.sc (.bool false))] h
def bY:N4:=fun W R N E P x1 x4 x5 Aj h=>
aE Aj (
bD W R N E P x1 (.sc (.bool true)) x4 x5 (.sc (.int .i64 (-1))) h) (
bZ W R N E P h)
def bT:N4:=fun W R N E P x1 x4 x5 x8 h=>
aa Pg .eql 9 true x8 (.sc (.string ⟨#[117,115,101]⟩)) fun t51=>
bY W R N E P x1 x4 x5 t51 h
def bW:N6:=fun W R N E P x1 x3 x4 x5 x8 lW h=>
aE lW (
bD W R N E P x1 x3 x4 x5 (.sc (.int .i64 1)) h) (
bT W R N E P x1 x4 x5 x8 h)
def cj:N5:=fun W R N E P x1 x3 x4 x5 x8 h=>
aa Pg .eql 9 true x8 (.sc (.string ⟨#[114,101,115,101,116]⟩)) fun t52=>
bW W R N E P x1 x3 x4 x5 x8 t52 h
def cq:N6:=fun W R N E P x1 x3 x4 x5 x8 il h=>
aE il (
bD W R N E P x1 x3 x4 x5 (.sc (.int .i64 2)) h) (
cj W R N E P x1 x3 x4 x5 x8 h)
def cN:N5:=fun W R N E P x1 x3 x4 x5 x8 h=>
aa Pg .eql 9 true x8 (.sc (.string ⟨#[109,101,97,115,117,114,101]⟩)) fun t53=>
cq W R N E P x1 x3 x4 x5 x8 t53 h
def cV:N7:=fun W R N E P x1 x3 x4 x5 x6 x8 cR h=>
aE cR (
bD W R N E P x1 (.sc (.bool true)) (.sc (.bool true)) (.sc (.bool true)) x6 h) (
cN W R N E P x1 x3 x4 x5 x8 h)
def cX:N6:=fun W R N E P x1 x3 x4 x5 x6 x8 h=>
aa Pg .eql 9 true x8 (.sc (.string ⟨#[105,102]⟩)) fun t54=>
cV W R N E P x1 x3 x4 x5 x6 x8 t54 h
def dH:N7:=fun W R N E P x1 x3 x4 x5 x6 x8 cg h=>
aE cg (
bD W R N E P x1 x3 (.sc (.bool true)) (.sc (.bool true)) x6 h) (
cX W R N E P x1 x3 x4 x5 x6 x8 h)
def eh:N6:=fun W R N E P x1 x3 x4 x5 x6 x8 h=>
aa Pg .eql 9 true x8 (.sc (.string ⟨#[114,101,112,101,97,116]⟩)) fun t55=>
dH W R N E P x1 x3 x4 x5 x6 x8 t55 h
def ft:N7:=fun W R N E P x1 x3 x4 x5 x6 x8 aS h=>
aE aS (
bD W R N E P x1 (.sc (.bool true)) x4 (.sc (.bool true)) (.sc (.int .i64 (-1))) h) (
eh W R N E P x1 x3 x4 x5 x6 x8 h)
def fc:N6:=fun W R N E P x1 x3 x4 x5 x6 x8 h=>
aa Pg .eql 9 true x8 (.sc (.string ⟨#[103,97,116,101]⟩)) fun t56=>
ft W R N E P x1 x3 x4 x5 x6 x8 t56 h
def fQ:N7:=fun W R N E P x1 x3 x4 x5 x6 x8 x9 h=>
aE x9 (
bD W R N E P x1 (.sc (.bool true)) (.sc (.bool true)) x5 x6 h) (
fc W R N E P x1 x3 x4 x5 x6 x8 h)
def fM:N7:=fun W R N E P x1 x3 x4 x5 x6 x8 x9 h=>
aE x9 (
fQ W R N E P x1 x3 x4 x5 x6 x8 x9 h) (
aa Pg .eql 9 true x8 (.sc (.string ⟨#[98,105,116,115]⟩)) fun t57=>
fQ W R N E P x1 x3 x4 x5 x6 x8 t57 h)
def gh:N6:=fun W R N E P x1 x3 x4 x5 x6 x8 h=>
aa Pg .eql 9 true x8 (.sc (.string ⟨#[113,117,98,105,116,115]⟩)) fun t58=>
fM W R N E P x1 x3 x4 x5 x6 x8 t58 h
def fq:N5:=fun W R N E P x1 x3 x4 x5 x6 h=>
ag (some 0) x1 fun t59=>
ai (some false) (some 1) t59 h fun t60 _=>
gh W R N E P x1 x3 x4 x5 x6 t60 h
def fp:N1:=fun W R N E P x1 h=>
fq W R N E P x1 (.sc (.bool false)) (.sc (.bool false)) (.sc (.bool false)) (.sc (.int .i64 0)) h
def gg:N1:=fun W R N E P x0 h=>
dF 6 46 x0 h fun t62 Fm=>
fp W R N E P t62 Fm
theorem aI{x0:AV}{h:AH}{M:WK}{R:RK}(hp:gg (fun id=>M id\/h.next<=id) (aH Pg [.tmp 2] R) (aH Pg [.tmp 2] R) (fun _ _ _=>False) (fun v h=>R (.bV v) h) x0 h):ay Pg 42 [x0] h M R:=
 fin (n:=76) (pl:=[(19,⟨[(none,(fr 0 6)),(some (5,false),(fr 6 2)),(some (7,true),(fr 8 4)),(some (5,false),(fr 12 1)),(none,(fr 13 2)),(some (14,false),(fr 15 3)),(none,(fr 18 2)),(some (19,false),(fr 20 3)),(some (22,true),(fr 23 3)),(some (19,false),(fr 26 1)),(none,(fr 27 1))],false,[],[]⟩),(21,⟨[(none,(fr 0 4)),(some (3,false),(fr 4 3)),(none,(fr 7 2)),(some (8,false),(fr 9 3)),(some (11,true),(fr 12 3)),(some (8,false),(fr 15 1)),(none,(fr 16 1))],false,[],[]⟩)]) (rs:=[.tmp 2]) (L:=rs) (fun c=>(a1 gg 0 c)) Tryz.mixed Tryz.func42 (fun c=>
(sq (a1 gg 0 c)
(sq (a1 fp 1 c)
(sn
(sn
(sn
(sl (a2 n1 1 6 c))
(sn
(cd (a3 n3 1 6 68 c) (sl (a0 n2 c)) tr)
(gr (gn (a3 aP 1 4 6 c) (gx (a4 n9 1 4 6 55 c) (gn (a5 n8 1 4 6 55 58 c) (gx (a4 n7 1 4 6 60 c) (gx (a4 n6 1 6 60 63 c) (gx (a5 n5 1 6 60 63 66 c) (gl (a4 n4 1 6 60 67 c)))))))))))
(sn
(cd (a4 aQ 1 4 6 51 c) (sl (a0 aU c)) tr)
(gr (gn (a5 bD 1 3 4 5 6 c) (gx (a6 bG 1 3 4 5 6 29 c) (gx (a6 bE 1 4 5 6 29 31 c) (gx (a7 bC 1 4 5 6 29 31 35 c) (gn (a6 bz 1 4 5 6 29 36 c) (gx (a5 bu 1 4 5 6 38 c) (gn (a6 bg 1 4 5 6 38 41 c) (gx (a5 aZ 1 4 5 6 43 c) (gx (a5 bj 1 4 6 43 46 c) (gx (a6 bn 1 4 6 43 46 49 c) (gl (a5 a_ 1 4 6 43 50 c)))))))))))))))
(sq (a5 fq 1 3 4 5 6 c)
(bk 0 (sn
(cd (a7 fQ 1 3 4 5 6 8 9 c) tr (sq (a6 fc 1 3 4 5 6 8 c)
(cd (a7 ft 1 3 4 5 6 8 12 c) tr (sq (a6 eh 1 3 4 5 6 8 c)
(cd (a7 dH 1 3 4 5 6 8 14 c) tr (sq (a6 cX 1 3 4 5 6 8 c)
(cd (a7 cV 1 3 4 5 6 8 16 c) tr (sq (a5 cN 1 3 4 5 8 c)
(cd (a6 cq 1 3 4 5 8 18 c) tr (sq (a5 cj 1 3 4 5 8 c)
(cd (a6 bW 1 3 4 5 8 20 c) tr (sq (a4 bT 1 4 5 8 c)
(cd (a4 bY 1 4 5 22 c) tr (sl (a0 bZ c)))))))))))))))
(sq (a6 gh 1 3 4 5 6 8 c)
(cd (a7 fM 1 3 4 5 6 8 9 c) tr tr))))))))) hp
attribute [simp] n1 n2 n3 n4 n5 n6 n7 n8 n9 aP aU aQ a_ bn bj aZ bg bu bz bC bE bG bD bZ bY bT bW cj cq cN cV cX dH eh ft fc fQ fM gh fq fp gg
end iw
namespace km
abbrev rs:List Nat:=[2]
def n1:N1:=fun _ R _ _ _ x3 h=>
R [x3] h
def n2:N3:=fun _ _ N _ _ x1 x3 x4 h=>
aa Pg .add 3 true x4 (.sc (.int .i64 1)) fun t1=>
N [x1,x3,t1] h
def n3:N3:=fun W R N E P x1 x3 x4 h=>
ag (some 2) x1 fun t2=>
ai (some false) (some 1) t2 h fun t3 _=>
bM (some (2,none)) t3 x4 fun t5=>
ai (some true) (some 2) t5 h fun t6 _=>
aC Pg W 76 [t6] h (fun t8 h9=>
aa Pg .add 9 false x3 t8 fun t10=>
n2 W R N E P x1 t10 x4 h9) P
def n4:N4:=fun W R N E P x1 x3 x4 ed h=>
aE ed (
n3 W R N E P x1 x3 x4 h) (
E 0 [x3] h)
def n5:N3:=fun W R N E P x1 x3 x4 h=>
ag (some 2) x1 fun t11=>
ai (some false) (some 1) t11 h fun t12 _=>
(aW t12=false)/\bL t12 fun t14=>
aa Pg .lss 3 false x4 t14 fun t15=>
n4 W R N E P x1 x3 x4 t15 h
def cn:GK:=fun W R N E P N' vs h=>n5 W R N' (fun(i:Nat) (vs:List AV) (h:AH)=>if i=0 then n1 W R N E P (vs.getD 0 ab) h else E i vs h) P (vs.getD 0 ab) (vs.getD 1 ab) (vs.getD 2 ab) h
def n6:N3:=fun W R N E P x1 x3 x4 h=>
da (cn W R N E P) [x1,x3,x4] h
def n7:N2:=fun W R N E P x1 x3 h=>
n6 W R N E P x1 x3 (.sc (.int .i64 0)) h
def n8:N3:=fun W R N E P x1 x3 eL h=>
aE eL (
aa Pg .add 9 true x3 (.sc (.string ⟨#[32]⟩)) fun t16=>
ag (some 3) x1 fun t17=>
ai (some false) (some 1) t17 h fun t18 _=>
aC Pg W 75 [t18] h (fun t20 sR=>
aa Pg .add 9 false t16 t20 fun t22=>
n7 W R N E P x1 t22 sR) P) (
n7 W R N E P x1 x3 h)
def n9:N4:=fun W R N E P x1 x3 eD fD h=>
aJ eD (.sc (.bool true)) fD fun t23=>
n8 W R N E P x1 x3 t23 h
def aP:N3:=fun W R N E P x1 x3 eD h=>
bd false eD (
ag (some 0) x1 fun t24=>
ai (some false) (some 1) t24 h fun t25 _=>
aa Pg .eql 9 true t25 (.sc (.string ⟨#[105,102]⟩)) fun t27=>
n9 W R N E P x1 x3 eD t27 h) (
n9 W R N E P x1 x3 eD ab h)
def aU:N4:=fun W R N E P x1 x3 dW fk h=>
aJ dW (.sc (.bool true)) fk fun t28=>
aP W R N E P x1 x3 t28 h
def aQ:N3:=fun W R N E P x1 x3 dW h=>
bd false dW (
ag (some 0) x1 fun t29=>
ai (some false) (some 1) t29 h fun t30 _=>
aa Pg .eql 9 true t30 (.sc (.string ⟨#[114,101,112,101,97,116]⟩)) fun t32=>
aU W R N E P x1 x3 dW t32 h) (
aU W R N E P x1 x3 dW ab h)
def a_:N4:=fun W R N E P x1 x3 jQ SM h=>
aJ jQ (.sc (.bool true)) SM fun t33=>
aQ W R N E P x1 x3 t33 h
def bn:N3:=fun W R N E P x1 x3 jQ h=>
bd false jQ (
ag (some 0) x1 fun t34=>
ai (some false) (some 1) t34 h fun t35 _=>
aa Pg .eql 9 true t35 (.sc (.string ⟨#[98,105,116,115]⟩)) fun t37=>
a_ W R N E P x1 x3 jQ t37 h) (
a_ W R N E P x1 x3 jQ ab h)
def bj:N2:=fun W R N E P x1 x3 h=>
ag (some 0) x1 fun t38=>
ai (some false) (some 1) t38 h fun t39 _=>
aa Pg .eql 9 true t39 (.sc (.string ⟨#[113,117,98,105,116,115]⟩)) fun t41=>
bn W R N E P x1 x3 t41 h
def aZ:N3:=fun W R N E P x1 x3 cg h=>
aE cg (
aa Pg .add 9 true x3 (.sc (.string ⟨#[32]⟩)) fun t45=>
ag (some 1) x1 fun t46=>
ai (some false) (some 1) t46 h fun t47 _=>
aa Pg .add 9 false t45 t47 fun t49=>
bj W R N E P x1 t49 h) (
bj W R N E P x1 x3 h)
def bg:N2:=fun W R N E P x1 x3 h=>
ag (some 1) x1 fun t50=>
ai (some false) (some 1) t50 h fun t51 _=>
aa Pg .neq 9 true t51 (.sc (.string ⟨#[]⟩)) fun t53=>
aZ W R N E P x1 x3 t53 h
def bu:N3:=fun W R N E P x1 x3 x9 h=>
aE x9 (
ag (some 1) x1 fun t42=>
ai (some false) (some 1) t42 h fun t43 _=>
bj W R N E P x1 t43 h) (
bg W R N E P x1 x3 h)
def bz:N2:=fun W R N E P x1 x3 h=>
ag (some 0) x1 fun t54=>
ai (some false) (some 1) t54 h fun t55 _=>
aa Pg .eql 9 true t55 (.sc (.string ⟨#[117,115,101]⟩)) fun t57=>
bu W R N E P x1 x3 t57 h
def bC:N1:=fun W R N E P x1 h=>
ag (some 0) x1 fun t58=>
ai (some false) (some 1) t58 h fun t59 _=>
bz W R N E P x1 t59 h
def bE:N1:=fun W R N E P x0 h=>
dF 6 46 x0 h fun t61 wM=>
bC W R N E P t61 wM
theorem aI{x0:AV}{h:AH}{M:WK}{R:RK}(hp:bE (fun id=>M id\/h.next<=id) (aH Pg [.tmp 2] R) (aH Pg [.tmp 2] R) (fun _ _ _=>False) (fun v h=>R (.bV v) h) x0 h):ay Pg 43 [x0] h M R:=
 fin (n:=60) (pl:=[(6,⟨[(none,(fr 0 4)),(some (3,false),(fr 4 3)),(none,(fr 7 2)),(some (8,false),(fr 9 3)),(none,(fr 12 2)),(some (13,false),(fr 14 3)),(none,(fr 17 1))],false,[],[]⟩)]) (rs:=[.tmp 2]) (L:=rs) (fun c=>(a1 bE 0 c)) Tryz.mixed Tryz.func43 (fun c=>
(sq (a1 bE 0 c)
(sq (a1 bC 1 c)
(sn
(sn
(sn
(sl (a1 n1 3 c))
(sq (a2 n7 1 3 c)
(bk 0 (lp [1,3,4] rs [(0,[3])] (a3 n6 1 3 4 c) cn (fun i vs h=>if i=0 then n1 c.W c.R c.N c.E c.P (vs.getD 0 ab) h else c.E i vs h) (.b (.t .o)) fun c=>
(sn
(sn
(sm (a3 n2 1 3 4 c))
(bk 1 (sm (a3 n3 1 3 4 c))))
(sq (a3 n5 1 3 4 c)
(cd (a4 n4 1 3 4 48 c) tr tr)))))))
(sn
(cd (a3 n8 1 3 37 c) tr tr)
(gr (gn (a2 bj 1 3 c) (gx (a3 bn 1 3 23 c) (gn (a4 a_ 1 3 23 26 c) (gx (a3 aQ 1 3 28 c) (gn (a4 aU 1 3 28 31 c) (gx (a3 aP 1 3 33 c) (gl (a4 n9 1 3 33 36 c)))))))))))
(sq (a2 bz 1 3 c)
(cd (a3 bu 1 3 9 c) tr (sq (a2 bg 1 3 c)
(cd (a3 aZ 1 3 14 c) tr tr)))))))) hp
attribute [simp] n1 n2 n3 n4 n5 n7 n8 n9 aP aU aQ a_ bn bj aZ bg bu bz bC bE
end km
namespace jt
abbrev rs:List Nat:=[6]
def n1:N0:=fun _ R _ _ _ h=>
R [(.sc (.bool true))] h
def n2:N3:=fun _ _ N _ _ x0 x2 x7 h=>
aa Pg .add 3 true x7 (.sc (.int .i64 1)) fun t1=>
N [x0,x2,t1] h
def n3:N0:=fun _ R _ _ _ h=>
R [(.sc (.bool false))] h
def n4:N4:=fun W R N E P x0 x2 x7 D3 h=>
aE D3 (
n3 W R N E P h) (
n2 W R N E P x0 x2 x7 h)
def n5:N5:=fun W R N E P x0 x2 x7 eA cA h=>
aJ eA (.sc (.bool true)) cA fun t2=>
n4 W R N E P x0 x2 x7 t2 h
def n6:N6:=fun W R N E P x0 x2 x7 eA ed c7 h=>
bd false eA (
aJ ed c7 (.sc (.bool false)) fun t3=>
n5 W R N E P x0 x2 x7 eA t3 h) (
n5 W R N E P x0 x2 x7 eA ab h)
def n7:N5:=fun W R N E P x0 x2 x7 eA ed h=>
bd true ed (
bM (some (2,none)) x0 x7 fun t4=>
ag (some 1) t4 fun t5=>
ai (some false) (some 1) t5 h fun t6 _=>
aa Pg .neq 3 true t6 (.sc (.int .i64 (-1))) fun t8=>
n6 W R N E P x0 x2 x7 eA ed t8 h) (
n6 W R N E P x0 x2 x7 eA ed ab h)
def n8:N4:=fun W R N E P x0 x2 x7 eA h=>
bd false eA (
e_ .not x2 fun t9=>
n7 W R N E P x0 x2 x7 eA t9 h) (
n7 W R N E P x0 x2 x7 eA ab h)
def n9:N5:=fun W R N E P x0 x2 x7 eL fj h=>
aJ eL (.sc (.bool true)) fj fun t10=>
n8 W R N E P x0 x2 x7 t10 h
def aP:N4:=fun W R N E P x0 x2 x7 eL h=>
bd false eL (
bM (some (2,none)) x0 x7 fun t11=>
ag (some 1) t11 fun t12=>
ai (some false) (some 1) t12 h fun t13 _=>
aa Pg .gtr 3 true t13 (.sc (.int .i64 9007199254740991)) fun t15=>
n9 W R N E P x0 x2 x7 eL t15 h) (
n9 W R N E P x0 x2 x7 eL ab h)
def aU:N5:=fun W R N E P x0 x2 x7 eE kR h=>
aJ eE (.sc (.bool true)) kR fun t16=>
aP W R N E P x0 x2 x7 t16 h
def aQ:N4:=fun W R N E P x0 x2 x7 eE h=>
bd false eE (
bM (some (2,none)) x0 x7 fun t17=>
ag (some 1) t17 fun t18=>
ai (some false) (some 1) t18 h fun t19 _=>
aa Pg .lss 3 true t19 (.sc (.int .i64 (-1))) fun t21=>
aU W R N E P x0 x2 x7 eE t21 h) (
aU W R N E P x0 x2 x7 eE ab h)
def a_:N3:=fun W R N E P x0 x2 x7 h=>
bM (some (2,none)) x0 x7 fun t22=>
ag (some 0) t22 fun t23=>
ai (some false) (some 1) t23 h fun t24 _=>
aC Pg W 73 [t24] h (fun t26 vz=>
e_ .not t26 fun t28=>
aQ W R N E P x0 x2 x7 t28 vz) P
def bn:N4:=fun W R N E P x0 x2 x7 ol h=>
aE ol (
a_ W R N E P x0 x2 x7 h) (
E 0 [] h)
def bj:N3:=fun W R N E P x0 x2 x7 h=>
(aW x0=false)/\bL x0 fun t29=>
aa Pg .lss 3 false x7 t29 fun t30=>
bn W R N E P x0 x2 x7 t30 h
def cn:GK:=fun W R N E P N' vs h=>bj W R N' (fun(i:Nat) (vs:List AV) (h:AH)=>if i=0 then n1 W R N E P h else E i vs h) P (vs.getD 0 ab) (vs.getD 1 ab) (vs.getD 2 ab) h
def aZ:N3:=fun W R N E P x0 x2 x7 h=>
da (cn W R N E P) [x0,x2,x7] h
def bg:N2:=fun W R N E P x0 x2 h=>
aZ W R N E P x0 x2 (.sc (.int .i64 0)) h
def bu:N0:=fun _ R _ _ _ h=>
R [(.sc (.bool false))] h
def bz:N3:=fun W R N E P x0 x2 dn h=>
aE dn (
bu W R N E P h) (
bg W R N E P x0 x2 h)
def bC:N4:=fun W R N E P x0 x2 ap cg h=>
aJ ap cg (.sc (.bool false)) fun t31=>
bz W R N E P x0 x2 t31 h
def bE:N4:=fun W R N E P x0 x1 x2 ap h=>
bd true ap (
(aW x0=false)/\bL x0 fun t32=>
aa Pg .neq 3 false t32 x1 fun t33=>
bC W R N E P x0 x2 ap t33 h) (
bC W R N E P x0 x2 ap ab h)
def bG:N3:=fun W R N E P x0 x1 x2 h=>
aa Pg .geq 3 true x1 (.sc (.int .i64 0)) fun t34=>
bE W R N E P x0 x1 x2 t34 h
def bD:N3:=fun W R N E P x0 x1 x2 h=>
bG W R N E P x0 x1 x2 h
theorem aI{x0 x1 x2:AV}{h:AH}{M:WK}{R:RK}(hp:bD (fun id=>M id\/h.next<=id) (aH Pg [.tmp 6] R) (aH Pg [.tmp 6] R) (fun _ _ _=>False) (fun v h=>R (.bV v) h) x0 x1 x2 h):ay Pg 74 [x0,x1,x2] h M R:=
 fin (n:=57) (pl:=[(1,⟨[(none,(fr 0 3)),(some (2,true),(fr 3 4)),(none,(fr 7 1))],false,[],[]⟩),(6,⟨[(none,(fr 0 8)),(some (7,false),(fr 8 6)),(none,(fr 14 2)),(some (15,false),(fr 16 6)),(none,(fr 22 2)),(some (23,false),(fr 24 3)),(some (26,true),(fr 27 6)),(some (23,false),(fr 33 1)),(none,(fr 34 1))],false,[],[]⟩)]) (rs:=[.tmp 6]) (L:=rs) (fun c=>(a3 bD 0 1 2 c)) Tryz.mixed Tryz.func74 (fun c=>
(sq (a3 bD 0 1 2 c)
(sn
(sn
(sl (a0 n1 c))
(sq (a2 bg 0 2 c)
(bk 0 (lp [0,2,7] rs [(0,[])] (a3 aZ 0 2 7 c) cn (fun i vs h=>if i=0 then n1 c.W c.R c.N c.E c.P h else c.E i vs h) (.b (.t .o)) fun c=>
(sn
(sn
(sm (a3 n2 0 2 7 c))
(bk 1 (sn
(cd (a4 n4 0 2 7 56 c) (sl (a0 n3 c)) tr)
(gr (gn (a3 a_ 0 2 7 c) (gx (a4 aQ 0 2 7 29 c) (gn (a5 aU 0 2 7 29 35 c) (gx (a4 aP 0 2 7 37 c) (gn (a5 n9 0 2 7 37 43 c) (gx (a4 n8 0 2 7 45 c) (gx (a5 n7 0 2 7 45 48 c) (gx (a6 n6 0 2 7 45 48 54 c) (gl (a5 n5 0 2 7 45 55 c))))))))))))))
(sq (a3 bj 0 2 7 c)
(cd (a4 bn 0 2 7 19 c) tr tr)))))))
(sn
(cd (a3 bz 0 2 15 c) (sl (a0 bu c)) tr)
(gr (gn (a3 bG 0 1 2 c) (gx (a4 bE 0 1 2 10 c) (gl (a4 bC 0 2 10 14 c))))))))) hp
attribute [simp] n1 n2 n3 n4 n5 n6 n7 n8 n9 aP aU aQ a_ bn bj bg bu bz bC bE bG bD
end jt
namespace xj
abbrev rs:List Nat:=[2]
def n1:N1:=fun _ R _ _ _ x2 h=>
R [x2] h
def n2:N1:=fun W R N E P x0 h=>
aa Pg .quo 3 true x0 (.sc (.int .i64 10)) fun t1=>
aa Pg .rem 3 true x0 (.sc (.int .i64 10)) fun t2=>
aa Pg .add 3 true (.sc (.int .i64 48)) t2 fun t3=>
l8 (some .u8) t3 fun t4=>
(
aC Pg sB 75 [t1] h (fun t5 h6=>
db (some (1,5,[.int .u8 0])) 1 [(0,t4)] h6 fun t7 h8=>
qx t7 h8 fun t9 _=>
aa Pg .add 9 false t5 t9 fun t11=>
n1 W R N E P t11 h8) P)/\(
db (some (1,5,[.int .u8 0])) 1 [(0,t4)] h fun t12 wO=>
qx t12 wO fun t14 _=>
aC Pg sB 75 [t1] wO (fun t16 sT=>
aa Pg .add 9 false t16 t14 fun t18=>
n1 W R N E P t18 sT) P)/\True
def n3:N1:=fun _ R _ _ _ x0 h=>
aa Pg .add 3 true (.sc (.int .i64 48)) x0 fun t19=>
l8 (some .u8) t19 fun t20=>
db (some (1,5,[.int .u8 0])) 1 [(0,t20)] h fun t21 qj=>
qx t21 qj fun t23 _=>
R [t23] qj
def n4:N2:=fun W R N E P x0 x4 h=>
aE x4 (
n3 W R N E P x0 h) (
n2 W R N E P x0 h)
def n5:N1:=fun W R N E P x0 h=>
aa Pg .lss 3 true x0 (.sc (.int .i64 10)) fun t25=>
n4 W R N E P x0 t25 h
def n6:N1:=fun W R N E P x0 h=>
n5 W R N E P x0 h
theorem aI{x0:AV}{h:AH}{M:WK}{R:RK}(hp:n6 (fun id=>M id\/h.next<=id) (aH Pg [.tmp 2] R) (aH Pg [.tmp 2] R) (fun _ _ _=>False) (fun v h=>R (.bV v) h) x0 h):ay Pg 75 [x0] h M R:=
 fin (n:=20) (pl:=[(3,⟨[(none,[(0,false),(1,false),(3,false),(4,false),(5,false),(6,false)])],false,[.mk [(2,false),(7,false),(8,false),(9,false),(10,false)] [],.mk [(7,false),(8,false),(2,false),(9,false),(10,false)] []],[2]⟩)]) (rs:=[.tmp 2]) (L:=rs) (fun c=>(a1 n6 0 c)) Tryz.mixed Tryz.func75 (fun c=>
(sq (a1 n6 0 c)
(sn
(sn
(sm (a1 n1 2 c))
(sm (a1 n2 0 c)))
(sq (a1 n5 0 c)
(cd (a2 n4 0 4 c) (sl (a1 n3 0 c)) tr))))) hp
attribute [simp] n1 n2 n3 n4 n5 n6
end xj
namespace VL
abbrev rs:List Nat:=[2]
def n1:N1:=fun _ R _ _ _ x2 h=>
R [x2] h
def n2:N1:=fun W R N E P x1 h=>
ag (some 0) x1 fun t1=>
ai (some false) (some 1) t1 h fun t2 _=>
aa Pg .add 9 true (.sc (.string ⟨#[32]⟩)) t2 fun t4=>
aa Pg .add 9 true t4 (.sc (.string ⟨#[91]⟩)) fun t5=>
ag (some 1) x1 fun t6=>
ai (some false) (some 1) t6 h fun t7 _=>
aC Pg sB 75 [t7] h (fun t9 kV=>
aa Pg .add 9 false t5 t9 fun t11=>
aa Pg .add 9 true t11 (.sc (.string ⟨#[93]⟩)) fun t12=>
n1 W R N E P t12 kV) P
def n3:N1:=fun _ R _ _ _ x1 h=>
ag (some 0) x1 fun t13=>
ai (some false) (some 1) t13 h fun t14 _=>
aa Pg .add 9 true (.sc (.string ⟨#[32]⟩)) t14 fun t16=>
R [t16] h
def n4:N2:=fun W R N E P x1 x5 h=>
aE x5 (
n3 W R N E P x1 h) (
n2 W R N E P x1 h)
def n5:N1:=fun W R N E P x1 h=>
ag (some 1) x1 fun t17=>
ai (some false) (some 1) t17 h fun t18 _=>
aa Pg .lss 3 true t18 (.sc (.int .i64 0)) fun t20=>
n4 W R N E P x1 t20 h
def n6:N1:=fun W R N E P x0 h=>
dF 2 67 x0 h fun t21 qj=>
n5 W R N E P t21 qj
theorem aI{x0:AV}{h:AH}{M:WK}{R:RK}(hp:n6 (fun id=>M id\/h.next<=id) (aH Pg [.tmp 2] R) (aH Pg [.tmp 2] R) (fun _ _ _=>False) (fun v h=>R (.bV v) h) x0 h):ay Pg 76 [x0] h M R:=
 fin (n:=18) (pl:=[(3,⟨[(none,(fr 0 10))],false,[],[6]⟩)]) (rs:=[.tmp 2]) (L:=rs) (fun c=>(a1 n6 0 c)) Tryz.mixed Tryz.func76 (fun c=>
(sq (a1 n6 0 c)
(sn
(sn
(sm (a1 n1 2 c))
(gr (gl (a1 n2 1 c))))
(sq (a1 n5 1 c)
(cd (a2 n4 1 5 c) (sl (a1 n3 1 c)) tr))))) hp
attribute [simp] n1 n2 n3 n4 n5 n6
end VL
end
section
open Go.Ab
namespace ub
abbrev rs:List Nat:=[2,3]
def n1:N1:=fun W R _ _ P x4 h=>
bt x4 fun t1=>
ag (some 1) t1 fun t2=>
aC Pg W 32 [t2] h (fun t3 h4=>
R [t3,(.sc (.int .i64 0))] h4) P
def n2:N0:=fun _ R _ _ _ h=>
R [(.sc (.string ⟨#[]⟩)),(.sc (.int .i64 1))] h
def n3:N2:=fun W R N E P x4 jy h=>
aE jy (
n2 W R N E P h) (
n1 W R N E P x4 h)
def n4:N1:=fun W R N E P x4 h=>
bt x4 fun t5=>
ag (some 1) t5 fun t6=>
aC Pg W 31 [t6] h (fun t7 h8=>
aa Pg .gtr 3 true t7 (.sc (.int .i64 65536)) fun t9=>
n3 W R N E P x4 t9 h8) P
def n5:N0:=fun _ R _ _ _ h=>
R [(.sc (.string ⟨#[]⟩)),(.sc (.int .i64 100))] h
def n6:N2:=fun W R N E P x4 aS h=>
aE aS (
n5 W R N E P h) (
n4 W R N E P x4 h)
def n7:N2:=fun W R N E P x0 x4 h=>
(aW x0=false)/\bL x0 fun t10=>
aC Pg W 30 [x4,(.sc (.int .i64 0)),t10,(.sc (.int .i64 0))] h (fun t11 pb=>
e_ .not t11 fun t13=>
n6 W R N E P x4 t13 pb) P
def n8:N1:=fun W R N E P x0 h=>
ck (some ([.slice none 0 0,.pointer none,.slice none 0 0],.inl [(0,1),(1,2)])) [(0,x0)] fun t14=>
dF 3 77 t14 h fun t15 kU=>
n7 W R N E P x0 t15 kU
def n9:N1:=fun W R N E P x0 h=>
n8 W R N E P x0 h
theorem aI{x0:AV}{h:AH}{M:WK}{R:RK}(hp:n9 (fun id=>M id\/h.next<=id) (aH Pg [.tmp 2,.tmp 3] R) (aH Pg [.tmp 2,.tmp 3] R) (fun _ _ _=>False) (fun v h=>R (.bV v) h) x0 h):ay Pg 18 [x0] h M R:=
 fin (n:=22) (pl:=[]) (rs:=[.tmp 2,.tmp 3]) (L:=rs) (fun c=>(a1 n9 0 c)) Tryz.mixed Tryz.func18 (fun c=>
(sq (a1 n9 0 c)
(sq (a1 n8 0 c)
(sn
(sn
(sl (a1 n1 4 c))
(sq (a1 n4 4 c)
(cd (a2 n3 4 17 c) (sl (a0 n2 c)) tr)))
(sq (a2 n7 0 4 c)
(cd (a2 n6 4 12 c) (sl (a0 n5 c)) tr)))))) hp
attribute [simp] n1 n2 n3 n4 n5 n6 n7 n8 n9
end ub
namespace fw
abbrev rs:List Nat:=[8]
def n1:N0:=fun _ R _ _ _ h=>
R [(.sc (.bool true))] h
def n2:N4:=fun _ _ N _ _ x0 x2 x3 bc h=>
N [x0,x2,x3,bc] h
def n3:N4:=fun W R N E P x0 x2 x3 bc h=>
aC Pg W 52 [x0,(.sc (.string ⟨#[125,10]⟩))] h (fun t1 h2=>
n2 W R N E P x0 x2 x3 bc h2) P
def n4:N4:=fun W R N E P x0 x2 x3 bc h=>
aC Pg W 51 [x0,x3] h (fun t3 h4=>
n3 W R N E P x0 x2 x3 bc h4) P
def n5:N0:=fun _ R _ _ _ h=>
R [(.sc (.bool false))] h
def n6:N5:=fun W R N E P x0 x2 x3 bc eC h=>
aE eC (
n5 W R N E P h) (
n4 W R N E P x0 x2 x3 bc h)
def n7:N5:=fun W R N E P x0 x2 x3 x9 bc h=>
aa Pg .add 3 true x9 (.sc (.int .i64 1)) fun t5=>
aa Pg .add 3 true x3 (.sc (.int .i64 1)) fun t6=>
aC Pg W 30 [x0,t5,bc,t6] h (fun t7 h8=>
e_ .not t7 fun t9=>
n6 W R N E P x0 x2 x3 bc t9 h8) P
def n8:N6:=fun W R N E P x0 x2 x3 x9 bc Ag h=>
aE Ag (
n7 W R N E P x0 x2 x3 x9 bc h) (
n2 W R N E P x0 x2 x3 bc h)
def n9:N6:=fun W R N E P x0 x2 x3 x9 aA bc h=>
ag (some 3) aA fun t10=>
ai (some false) (some 1) t10 h fun t11 _=>
n8 W R N E P x0 x2 x3 x9 bc t11 h
def aP:N6:=fun W R N E P x0 x2 x3 x9 ap aA h=>
aa Pg .add 3 true x9 (.sc (.int .i64 1)) fun t13=>
ag (some 4) ap fun t14=>
ai (some false) (some 1) t14 h fun t15 _=>
aa Pg .add 3 false t13 t15 fun t17=>
n9 W R N E P x0 x2 x3 x9 aA t17 h
def aU:N6:=fun W R N E P x0 x2 x3 x9 ap aA h=>
ai (some true) (some 6) ap h fun t18 _=>
ai (some true) (some 4) aA h fun t20 _=>
aC Pg W 50 [x0,t18,t20,x3] h (fun t22 Di=>
aP W R N E P x0 x2 x3 x9 ap aA Di) P
def aQ:N0:=fun _ R _ _ _ h=>
R [(.sc (.bool false))] h
def a_:N7:=fun W R N E P x0 x2 x3 x9 ap aA jx h=>
aE jx (
aQ W R N E P h) (
aU W R N E P x0 x2 x3 x9 ap aA h)
def bn:N8:=fun W R N E P x0 x2 x3 x9 ap aA kQ Ai h=>
aJ kQ (.sc (.bool true)) Ai fun t24=>
a_ W R N E P x0 x2 x3 x9 ap aA t24 h
def bj:N9:=fun W R N E P x0 x2 x3 x9 ap aA kQ cA lU h=>
bd false kQ (
aJ cA lU (.sc (.bool false)) fun t25=>
bn W R N E P x0 x2 x3 x9 ap aA kQ t25 h) (
bn W R N E P x0 x2 x3 x9 ap aA kQ ab h)
def aZ:N8:=fun W R N E P x0 x2 x3 x9 ap aA kQ cA h=>
bd true cA (
aa Pg .eql 3 true x3 (.sc (.int .i64 32)) fun t26=>
bj W R N E P x0 x2 x3 x9 ap aA kQ cA t26 h) (
bj W R N E P x0 x2 x3 x9 ap aA kQ cA ab h)
def bg:N7:=fun W R N E P x0 x2 x3 x9 ap aA kQ h=>
bd false kQ (
ag (some 3) aA fun t27=>
ai (some false) (some 1) t27 h fun t28 _=>
aZ W R N E P x0 x2 x3 x9 ap aA kQ t28 h) (
aZ W R N E P x0 x2 x3 x9 ap aA kQ ab h)
def bu:N8:=fun W R N E P x0 x2 x3 x9 ap aA ed lf h=>
aJ ed (.sc (.bool true)) lf fun t30=>
bg W R N E P x0 x2 x3 x9 ap aA t30 h
def bz:N7:=fun W R N E P x0 x2 x3 x9 ap aA ed h=>
bd false ed (
aa Pg .gtr 3 true x3 (.sc (.int .i64 32)) fun t31=>
bu W R N E P x0 x2 x3 x9 ap aA ed t31 h) (
bu W R N E P x0 x2 x3 x9 ap aA ed ab h)
def bC:N8:=fun W R N E P x0 x2 x3 x9 ap aA gE rz h=>
aJ gE (.sc (.bool true)) rz fun t32=>
bz W R N E P x0 x2 x3 x9 ap aA t32 h
def bE:N7:=fun W R N E P x0 x2 x3 x9 ap aA gE h=>
bd false gE (
ag (some 4) ap fun t33=>
ai (some false) (some 1) t33 h fun t34 _=>
aa Pg .sub 3 false x2 x9 fun t36=>
aa Pg .sub 3 true t36 (.sc (.int .i64 1)) fun t37=>
aa Pg .gtr 3 false t34 t37 fun t38=>
bC W R N E P x0 x2 x3 x9 ap aA gE t38 h) (
bC W R N E P x0 x2 x3 x9 ap aA gE ab h)
def bG:N8:=fun W R N E P x0 x2 x3 x9 ap aA vH eL h=>
aJ vH (.sc (.bool true)) eL fun t39=>
bE W R N E P x0 x2 x3 x9 ap aA t39 h
def bD:N7:=fun W R N E P x0 x2 x3 x9 ap aA vH h=>
bd false vH (
ag (some 4) ap fun t40=>
ai (some false) (some 1) t40 h fun t41 _=>
aa Pg .lss 3 true t41 (.sc (.int .i64 0)) fun t43=>
bG W R N E P x0 x2 x3 x9 ap aA vH t43 h) (
bG W R N E P x0 x2 x3 x9 ap aA vH ab h)
def bZ:N6:=fun W R N E P x0 x2 x3 x9 ap aA h=>
ai (some true) (some 6) ap h fun t44 _=>
aC Pg W 49 [t44] h (fun t46 sQ=>
e_ .not t46 fun t48=>
bD W R N E P x0 x2 x3 x9 ap aA t48 sQ) P
def bY:N5:=fun W R N E P x0 x2 x3 x9 ap h=>
ag (some 0) ap fun t49=>
ai (some false) (some 1) t49 h fun t50 _=>
aC Pg W 48 [t50] h (fun t52 sO=>
cl t52 0 fun t54=>
cl t52 1 fun t55=>
bH (some [.bool false,.bool false,.int .i64 0,.bool false]) 4 107 sO fun t56 wN=>
aG (some 4) t56 t54 wN W fun tV=>
bZ W R N E P x0 x2 x3 x9 ap t56 tV) P
def bT:N4:=fun W R N E P x0 x2 x3 x9 h=>
bt x0 fun t59=>
ag (some 0) t59 fun t60=>
ai (some false) (some 1) t60 h fun t61 _=>
bM (some (6,none)) t61 x9 fun t63=>
ai (some true) (some 6) t63 h fun t64 _=>
bH (some [.string ⟨#[]⟩,.string ⟨#[]⟩,.slice none 0 0,.int .i64 0,.int .i64 0,.int .i64 0]) 6 46 h fun t66 Ll=>
aG (some 6) t66 t64 Ll W fun Fj=>
bY W R N E P x0 x2 x3 x9 t66 Fj
def bW:N5:=fun W R N E P x0 x2 x3 x9 jy h=>
aE jy (
bT W R N E P x0 x2 x3 x9 h) (
E 0 [] h)
def cj:N4:=fun W R N E P x0 x2 x3 x9 h=>
aa Pg .lss 3 false x9 x2 fun t69=>
bW W R N E P x0 x2 x3 x9 t69 h
def cn:GK:=fun W R N E P N' vs h=>cj W R N' (fun(i:Nat) (vs:List AV) (h:AH)=>if i=0 then n1 W R N E P h else E i vs h) P (vs.getD 0 ab) (vs.getD 1 ab) (vs.getD 2 ab) (vs.getD 3 ab) h
def cq:N4:=fun W R N E P x0 x2 x3 x9 h=>
da (cn W R N E P) [x0,x2,x3,x9] h
def cN:N4:=fun W R N E P x0 x1 x2 x3 h=>
cq W R N E P x0 x2 x3 x1 h
def cV:N4:=fun W R N E P x0 x1 x2 x3 h=>
cN W R N E P x0 x1 x2 x3 h
theorem aI{x0 x1 x2 x3:AV}{h:AH}{M:WK}{R:RK}(hp:cV (fun id=>M id\/h.next<=id) (aH Pg [.tmp 8] R) (aH Pg [.tmp 8] R) (fun _ _ _=>False) (fun v h=>R (.bV v) h) x0 x1 x2 x3 h):ay Pg 30 [x0,x1,x2,x3] h M R:=
 fin (n:=86) (pl:=[(5,⟨[(none,(fr 0 4)),(some (3,false),(fr 4 3)),(none,(fr 7 2)),(some (8,false),(fr 9 7)),(none,(fr 16 2)),(some (17,false),(fr 18 2)),(none,(fr 20 2)),(some (21,false),(fr 22 3)),(some (24,true),(fr 25 2)),(some (21,false),(fr 27 1)),(none,(fr 28 1))],false,[],[]⟩)]) (rs:=[.tmp 8]) (L:=rs) (fun c=>(a4 cV 0 1 2 3 c)) Tryz.mixed Tryz.func30 (fun c=>
(sq (a4 cV 0 1 2 3 c)
(sn
(sl (a0 n1 c))
(sq (a4 cN 0 1 2 3 c)
(bk 0 (lp [0,2,3,9] rs [(0,[])] (a4 cq 0 2 3 9 c) cn (fun i vs h=>if i=0 then n1 c.W c.R c.N c.E c.P h else c.E i vs h) (.b (.t .o)) fun c=>
(sn
(bk 1 (sq (a4 bT 0 2 3 9 c)
(sq (a5 bY 0 2 3 9 10 c)
(sn
(sq (a6 aU 0 2 3 9 10 11 c)
(sq (a6 aP 0 2 3 9 10 11 c)
(sn
(sm (a4 n2 0 2 3 13 c))
(sq (a6 n9 0 2 3 9 11 13 c)
(cd (a6 n8 0 2 3 9 13 71 c) (sn
(sq (a4 n4 0 2 3 13 c)
(sm (a4 n3 0 2 3 13 c)))
(sq (a5 n7 0 2 3 9 13 c)
(cd (a5 n6 0 2 3 13 79 c) (sl (a0 n5 c)) tr))) tr)))))
(sn
(cd (a7 a_ 0 2 3 9 10 11 59 c) (sl (a0 aQ c)) tr)
(gr (gn (a6 bZ 0 2 3 9 10 11 c) (gx (a7 bD 0 2 3 9 10 11 34 c) (gn (a8 bG 0 2 3 9 10 11 34 37 c) (gx (a7 bE 0 2 3 9 10 11 39 c) (gn (a8 bC 0 2 3 9 10 11 39 46 c) (gx (a7 bz 0 2 3 9 10 11 48 c) (gn (a8 bu 0 2 3 9 10 11 48 50 c) (gx (a7 bg 0 2 3 9 10 11 52 c) (gx (a8 aZ 0 2 3 9 10 11 52 55 c) (gx (a9 bj 0 2 3 9 10 11 52 55 57 c) (gl (a8 bn 0 2 3 9 10 11 52 58 c))))))))))))))))))
(sq (a4 cj 0 2 3 9 c)
(cd (a5 bW 0 2 3 9 17 c) tr tr))))))))) hp
attribute [simp] n1 n2 n3 n4 n5 n6 n7 n8 n9 aP aU aQ a_ bn bj aZ bg bu bz bC bE bG bD bZ bY bT bW cj cN cV
end fw
namespace fY
abbrev rs:List Nat:=[2]
def n1:N0:=fun _ R _ _ _ h=>
R [(.sc (.bool true))] h
def n2:N4:=fun _ _ N _ _ x1 gV eQ eC h=>
aa Pg .add 3 true eC (.sc (.int .i64 1)) fun t1=>
N [x1,gV,eQ,t1] h
def n3:N0:=fun _ R _ _ _ h=>
R [(.sc (.bool false))] h
def n4:N5:=fun W R N E P x1 gV eQ eC Zv h=>
aE Zv (
n3 W R N E P h) (
n2 W R N E P x1 gV eQ eC h)
def n5:N6:=fun W R N E P x1 gV eQ eC fK ti h=>
aJ fK (.sc (.bool true)) ti fun t2=>
n4 W R N E P x1 gV eQ eC t2 h
def n6:N7:=fun W R N E P x1 gV eQ eC fK yO Mg h=>
bd false fK (
aJ yO Mg (.sc (.bool false)) fun t3=>
n5 W R N E P x1 gV eQ eC fK t3 h) (
n5 W R N E P x1 gV eQ eC fK ab h)
def n7:N7:=fun W R N E P x1 x6 gV eQ eC fK yO h=>
bd true yO (
ag (some 1) x6 fun t4=>
ai (some false) (some 1) t4 h fun t5 _=>
aa Pg .neq 3 true t5 (.sc (.int .i64 (-1))) fun t7=>
n6 W R N E P x1 gV eQ eC fK yO t7 h) (
n6 W R N E P x1 gV eQ eC fK yO ab h)
def n8:N6:=fun W R N E P x1 x6 gV eQ eC fK h=>
bd false fK (
ag (some 0) x1 fun t8=>
ai (some false) (some 1) t8 h fun t9 _=>
aa Pg .eql 9 true t9 (.sc (.string ⟨#[103,97,116,101]⟩)) fun t11=>
n7 W R N E P x1 x6 gV eQ eC fK t11 h) (
n7 W R N E P x1 x6 gV eQ eC fK ab h)
def n9:N7:=fun W R N E P x1 x6 gV eQ eC Aa Sz h=>
aJ Aa (.sc (.bool true)) Sz fun t12=>
n8 W R N E P x1 x6 gV eQ eC t12 h
def aP:N6:=fun W R N E P x1 x6 gV eQ eC Aa h=>
bd false Aa (
ag (some 1) x6 fun t13=>
ai (some false) (some 1) t13 h fun t14 _=>
aa Pg .gtr 3 true t14 (.sc (.int .i64 9007199254740991)) fun t16=>
n9 W R N E P x1 x6 gV eQ eC Aa t16 h) (
n9 W R N E P x1 x6 gV eQ eC Aa ab h)
def aU:N7:=fun W R N E P x1 x6 gV eQ eC Ad Ac h=>
aJ Ad (.sc (.bool true)) Ac fun t17=>
aP W R N E P x1 x6 gV eQ eC t17 h
def aQ:N6:=fun W R N E P x1 x6 gV eQ eC Ad h=>
bd false Ad (
ag (some 1) x6 fun t18=>
ai (some false) (some 1) t18 h fun t19 _=>
aa Pg .lss 3 true t19 (.sc (.int .i64 (-1))) fun t21=>
aU W R N E P x1 x6 gV eQ eC Ad t21 h) (
aU W R N E P x1 x6 gV eQ eC Ad ab h)
def a_:N5:=fun W R N E P x1 x6 gV eQ eC h=>
ag (some 0) x6 fun t22=>
ai (some false) (some 1) t22 h fun t23 _=>
aC Pg W 80 [t23] h (fun t25 mV=>
e_ .not t25 fun t27=>
aQ W R N E P x1 x6 gV eQ eC t27 mV) P
def bn:N4:=fun W R N E P x1 gV eQ eC h=>
bM (some (2,none)) gV eC fun t28=>
ai (some true) (some 2) t28 h fun t29 _=>
bH (some [.string ⟨#[]⟩,.int .i64 0]) 2 67 h fun t31 qi=>
aG (some 2) t31 t29 qi W fun Hv=>
a_ W R N E P x1 t31 gV eQ eC Hv
def bj:N5:=fun W R N E P x1 gV eQ eC iN h=>
aE iN (
bn W R N E P x1 gV eQ eC h) (
E 0 [] h)
def aZ:N4:=fun W R N E P x1 gV eQ eC h=>
aa Pg .lss 3 false eC eQ fun t34=>
bj W R N E P x1 gV eQ eC t34 h
def cn:GK:=fun W R N E P N' vs h=>aZ W R N' (fun(i:Nat) (vs:List AV) (h:AH)=>if i=0 then n1 W R N E P h else E i vs h) P (vs.getD 0 ab) (vs.getD 1 ab) (vs.getD 2 ab) (vs.getD 3 ab) h
def bg:N4:=fun W R N E P x1 gV eQ eC h=>
da (cn W R N E P) [x1,gV,eQ,eC] h
def bu:N1:=fun W R N E P x1 h=>
ag (some 2) x1 fun t35=>
ai (some false) (some 1) t35 h fun t36 _=>
(aW t36=false)/\bL t36 fun t38=>
bg W R N E P x1 t36 t38 (.sc (.int .i64 0)) h
def bz:N0:=fun _ R _ _ _ h=>
R [(.sc (.bool false))] h
def bC:N2:=fun W R N E P x1 x75 h=>
aE x75 (
bz W R N E P h) (
bu W R N E P x1 h)
def bE:N3:=fun W R N E P x1 n_ SK h=>
aJ n_ (.sc (.bool true)) SK fun t39=>
bC W R N E P x1 t39 h
def bG:N4:=fun W R N E P x1 n_ pS SL h=>
bd false n_ (
aJ pS SL (.sc (.bool false)) fun t40=>
bE W R N E P x1 n_ t40 h) (
bE W R N E P x1 n_ ab h)
def bD:N3:=fun W R N E P x1 n_ pS h=>
bd true pS (
ag (some 4) x1 fun t41=>
ai (some false) (some 1) t41 h fun t42 _=>
aa Pg .neq 3 true t42 (.sc (.int .i64 0)) fun t44=>
bG W R N E P x1 n_ pS t44 h) (
bG W R N E P x1 n_ pS ab h)
def bZ:N3:=fun W R N E P x1 x3 n_ h=>
bd false n_ (
ag (some 3) x3 fun t45=>
ai (some false) (some 1) t45 h fun t46 _=>
e_ .not t46 fun t48=>
bD W R N E P x1 n_ t48 h) (
bD W R N E P x1 n_ ab h)
def bY:N4:=fun W R N E P x1 x3 cL Ah h=>
aJ cL (.sc (.bool true)) Ah fun t49=>
bZ W R N E P x1 x3 t49 h
def bT:N5:=fun W R N E P x1 x3 cL lU oe h=>
bd false cL (
aJ lU oe (.sc (.bool false)) fun t50=>
bY W R N E P x1 x3 cL t50 h) (
bY W R N E P x1 x3 cL ab h)
def bW:N4:=fun W R N E P x1 x3 cL lU h=>
bd true lU (
ag (some 2) x1 fun t51=>
ai (some false) (some 1) t51 h fun t52 _=>
(aW t52=false)/\bL t52 fun t54=>
ag (some 2) x3 fun t55=>
ai (some false) (some 1) t55 h fun t56 _=>
aa Pg .neq 3 false t54 t56 fun t58=>
bT W R N E P x1 x3 cL lU t58 h) (
bT W R N E P x1 x3 cL lU ab h)
def cj:N3:=fun W R N E P x1 x3 cL h=>
bd false cL (
ag (some 2) x3 fun t59=>
ai (some false) (some 1) t59 h fun t60 _=>
aa Pg .geq 3 true t60 (.sc (.int .i64 0)) fun t62=>
bW W R N E P x1 x3 cL t62 h) (
bW W R N E P x1 x3 cL ab h)
def cq:N4:=fun W R N E P x1 x3 fj D4 h=>
aJ fj (.sc (.bool true)) D4 fun t63=>
cj W R N E P x1 x3 t63 h
def cN:N5:=fun W R N E P x1 x3 fj iX lf h=>
bd false fj (
aJ iX lf (.sc (.bool false)) fun t64=>
cq W R N E P x1 x3 fj t64 h) (
cq W R N E P x1 x3 fj ab h)
def cV:N4:=fun W R N E P x1 x3 fj iX h=>
bd true iX (
ag (some 3) x1 fun t65=>
ai (some false) (some 1) t65 h fun t66 _=>
aa Pg .neq 3 true t66 (.sc (.int .i64 0)) fun t68=>
cN W R N E P x1 x3 fj iX t68 h) (
cN W R N E P x1 x3 fj iX ab h)
def cX:N3:=fun W R N E P x1 x3 fj h=>
bd false fj (
ag (some 1) x3 fun t69=>
ai (some false) (some 1) t69 h fun t70 _=>
e_ .not t70 fun t72=>
cV W R N E P x1 x3 fj t72 h) (
cV W R N E P x1 x3 fj ab h)
def dH:N4:=fun W R N E P x1 x3 eD iO h=>
aJ eD (.sc (.bool true)) iO fun t73=>
cX W R N E P x1 x3 t73 h
def eh:N5:=fun W R N E P x1 x3 eD fD gR h=>
bd false eD (
aJ fD gR (.sc (.bool false)) fun t74=>
dH W R N E P x1 x3 eD t74 h) (
dH W R N E P x1 x3 eD ab h)
def ft:N4:=fun W R N E P x1 x3 eD fD h=>
bd true fD (
ag (some 3) x1 fun t75=>
ai (some false) (some 1) t75 h fun t76 _=>
aC Pg sB 81 [t76] h (fun t78 UW=>
e_ .not t78 fun t80=>
eh W R N E P x1 x3 eD fD t80 UW) P) (
eh W R N E P x1 x3 eD fD ab h)
def fc:N3:=fun W R N E P x1 x3 eD h=>
bd false eD (
ag (some 1) x3 fun t81=>
ai (some false) (some 1) t81 h fun t82 _=>
ft W R N E P x1 x3 eD t82 h) (
ft W R N E P x1 x3 eD ab h)
def fQ:N4:=fun W R N E P x1 x3 jQ fk h=>
aJ jQ (.sc (.bool true)) fk fun t84=>
fc W R N E P x1 x3 t84 h
def fM:N5:=fun W R N E P x1 x3 jQ gS vI h=>
bd false jQ (
aJ gS vI (.sc (.bool false)) fun t85=>
fQ W R N E P x1 x3 jQ t85 h) (
fQ W R N E P x1 x3 jQ ab h)
def gh:N4:=fun W R N E P x1 x3 jQ gS h=>
bd true gS (
ag (some 1) x1 fun t86=>
ai (some false) (some 1) t86 h fun t87 _=>
aa Pg .neq 9 true t87 (.sc (.string ⟨#[]⟩)) fun t89=>
fM W R N E P x1 x3 jQ gS t89 h) (
fM W R N E P x1 x3 jQ gS ab h)
def fq:N3:=fun W R N E P x1 x3 jQ h=>
bd false jQ (
ag (some 0) x3 fun t90=>
ai (some false) (some 1) t90 h fun t91 _=>
e_ .not t91 fun t93=>
gh W R N E P x1 x3 jQ t93 h) (
gh W R N E P x1 x3 jQ ab h)
def fp:N4:=fun W R N E P x1 x3 dn lh h=>
aJ dn (.sc (.bool true)) lh fun t94=>
fq W R N E P x1 x3 t94 h
def gg:N3:=fun W R N E P x1 x3 dn h=>
bd false dn (
ag (some 0) x3 fun t95=>
ai (some false) (some 1) t95 h fun t96 _=>
ag (some 1) x1 fun t98=>
ai (some false) (some 1) t98 h fun t99 _=>
aC Pg sB 80 [t99] h (fun t101 Fu=>
aa Pg .neq 4 false t96 t101 fun t103=>
fp W R N E P x1 x3 dn t103 Fu) P) (
fp W R N E P x1 x3 dn ab h)
def gI:N3:=fun W R N E P x1 x3 x4 h=>
e_ .not x4 fun t104=>
gg W R N E P x1 x3 t104 h
def gv:N1:=fun W R N E P x1 h=>
ag (some 0) x1 fun t105=>
ai (some false) (some 1) t105 h fun t106 _=>
aC Pg W 48 [t106] h (fun t108 Ns=>
cl t108 0 fun t110=>
cl t108 1 fun t111=>
bH (some [.bool false,.bool false,.int .i64 0,.bool false]) 4 107 Ns fun t112 Nr=>
aG (some 4) t112 t110 Nr W fun abp=>
gI W R N E P x1 t112 t111 abp) P
def iQ:N1:=fun W R N E P x0 h=>
dF 6 46 x0 h fun t115 abn=>
gv W R N E P t115 abn
theorem aI{x0:AV}{h:AH}{M:WK}{R:RK}(hp:iQ (fun id=>M id\/h.next<=id) (aH Pg [.tmp 2] R) (aH Pg [.tmp 2] R) (fun _ _ _=>False) (fun v h=>R (.bV v) h) x0 h):ay Pg 49 [x0] h M R:=
 fin (n:=108) (pl:=[(2,⟨[(none,(fr 0 3)),(some (2,false),(fr 3 6)),(none,(fr 9 2)),(some (10,false),(fr 11 4)),(some (14,true),(fr 15 3)),(some (10,false),(fr 18 1)),(none,(fr 19 2)),(some (20,false),(fr 21 3)),(some (23,true),(fr 24 4)),(some (20,false),(fr 28 1)),(none,(fr 29 2)),(some (30,false),(fr 31 4)),(some (34,true),(fr 35 3)),(some (30,false),(fr 38 1)),(none,(fr 39 2)),(some (40,false),(fr 41 4)),(some (44,true),(fr 45 6)),(some (40,false),(fr 51 1)),(none,(fr 52 2)),(some (53,false),(fr 54 4)),(some (57,true),(fr 58 3)),(some (53,false),(fr 61 1)),(none,(fr 62 1))],false,[],[7,26]⟩),(7,⟨[(none,(fr 0 5)),(some (4,false),(fr 5 3)),(none,(fr 8 2)),(some (9,false),(fr 10 3)),(none,(fr 13 2)),(some (14,false),(fr 15 4)),(some (18,true),(fr 19 3)),(some (14,false),(fr 22 1)),(none,(fr 23 1))],false,[],[]⟩)]) (rs:=[.tmp 2]) (L:=rs) (fun c=>(a1 iQ 0 c)) Tryz.mixed Tryz.func49 (fun c=>
(sq (a1 iQ 0 c)
(sq (a1 gv 1 c)
(sn
(sn
(sl (a0 n1 c))
(sq (a1 bu 1 c)
(bk 0 (lp [1,77,78,79] rs [(0,[])] (a4 bg 1 77 78 79 c) cn (fun i vs h=>if i=0 then n1 c.W c.R c.N c.E c.P h else c.E i vs h) (.b (.t .o)) fun c=>
(sq (a4 aZ 1 77 78 79 c)
(sn
(sn
(sm (a4 n2 1 77 78 79 c))
(bk 1 (sq (a4 bn 1 77 78 79 c)
(sn
(cd (a5 n4 1 77 78 79 106 c) (sl (a0 n3 c)) tr)
(gr (gn (a5 a_ 1 6 77 78 79 c) (gx (a6 aQ 1 6 77 78 79 87 c) (gn (a7 aU 1 6 77 78 79 87 90 c) (gx (a6 aP 1 6 77 78 79 92 c) (gn (a7 n9 1 6 77 78 79 92 95 c) (gx (a6 n8 1 6 77 78 79 97 c) (gx (a7 n7 1 6 77 78 79 97 101 c) (gx (a7 n6 1 77 78 79 97 101 104 c) (gl (a6 n5 1 77 78 79 97 105 c)))))))))))))))
(cd (a5 bj 1 77 78 79 80 c) tr tr)))))))
(sn
(cd (a2 bC 1 75 c) (sl (a0 bz c)) tr)
(gr (gn (a3 gI 1 3 4 c) (gx (a3 gg 1 3 15 c) (gn (a4 fp 1 3 15 21 c) (gx (a3 fq 1 3 23 c) (gx (a4 gh 1 3 23 27 c) (gx (a5 fM 1 3 23 27 30 c) (gn (a4 fQ 1 3 23 31 c) (gx (a3 fc 1 3 33 c) (gx (a4 ft 1 3 33 36 c) (gx (a5 eh 1 3 33 36 40 c) (gn (a4 dH 1 3 33 41 c) (gx (a3 cX 1 3 43 c) (gx (a4 cV 1 3 43 47 c) (gx (a5 cN 1 3 43 47 50 c) (gn (a4 cq 1 3 43 51 c) (gx (a3 cj 1 3 53 c) (gx (a4 bW 1 3 53 57 c) (gx (a5 bT 1 3 53 57 63 c) (gn (a4 bY 1 3 53 64 c) (gx (a3 bZ 1 3 66 c) (gx (a3 bD 1 66 70 c) (gx (a4 bG 1 66 70 73 c) (gl (a3 bE 1 66 74 c)))))))))))))))))))))))))))))) hp
attribute [simp] n1 n2 n3 n4 n5 n6 n7 n8 n9 aP aU aQ a_ bn bj aZ bu bz bC bE bG bD bZ bY bT bW cj cq cN cV cX dH eh ft fc fQ fM gh fq fp gg gI gv iQ
end fY
namespace iW
abbrev rs:List Nat:=[]
def n1:N2:=fun W _ N _ P x0 gQ h=>
aE gQ (
aC Pg W 52 [x0,(.sc (.string ⟨#[32,123,10]⟩))] h (fun t1 h2=>
N [] h2) P) (
aC Pg W 52 [x0,(.sc (.string ⟨#[59,10]⟩))] h (fun t3 h4=>
N [] h4) P)
def n2:N2:=fun W R N E P x0 x6 h=>
ag (some 3) x6 fun t5=>
ai (some false) (some 1) t5 h fun t6 _=>
n1 W R N E P x0 t6 h
def n3:N3:=fun W R N E P x0 x6 x8 h=>
aC Pg W 82 [x8,(.sc (.string ⟨#[32]⟩))] h (fun t8 h9=>
aC Pg W 52 [x0,t8] h9 (fun t10 mq=>
n2 W R N E P x0 x6 mq) P) P
def n4:N6:=fun _ _ N _ _ x0 x6 x8 eK gE gR h=>
aa Pg .add 3 true gR (.sc (.int .i64 1)) fun t12=>
N [x0,x6,x8,eK,gE,t12] h
def n5:N7:=fun W R N E P x0 x6 x8 ap eK gE gR h=>
ag (some 0) ap fun t13=>
ai (some false) (some 1) t13 h fun t14 _=>
aa Pg .add 9 true t14 (.sc (.string ⟨#[91]⟩)) fun t16=>
ag (some 1) ap fun t17=>
ai (some false) (some 1) t17 h fun t18 _=>
aC Pg sB 29 [t18] h (fun t20 sR=>
aa Pg .add 9 false t16 t20 fun t22=>
aa Pg .add 9 true t22 (.sc (.string ⟨#[93]⟩)) fun t23=>
db (some (1,9,[.string ⟨#[]⟩])) 1 [(0,t23)] sR fun t24 vA=>
dV (some (1,16,9)) x8 t24 vA W fun t26 vz=>
n4 W R N E P x0 x6 t26 eK gE gR vz) P
def n6:N8:=fun W R N E P x0 x6 x8 ap eK gE gR rz h=>
aE rz (
n5 W R N E P x0 x6 x8 ap eK gE gR h) (
ag (some 0) ap fun t28=>
ai (some false) (some 1) t28 h fun t29 _=>
db (some (1,9,[.string ⟨#[]⟩])) 1 [(0,t29)] h fun t31 qi=>
dV (some (1,16,9)) x8 t31 qi W fun t33 yD=>
n4 W R N E P x0 x6 t33 eK gE gR yD)
def n7:N7:=fun W R N E P x0 x6 x8 ap eK gE gR h=>
ag (some 1) ap fun t35=>
ai (some false) (some 1) t35 h fun t36 _=>
aa Pg .geq 3 true t36 (.sc (.int .i64 0)) fun t38=>
n6 W R N E P x0 x6 x8 ap eK gE gR t38 h
def n8:N6:=fun W R N E P x0 x6 x8 eK gE gR h=>
bM (some (2,none)) eK gR fun t39=>
ai (some true) (some 2) t39 h fun t40 _=>
bH (some [.string ⟨#[]⟩,.int .i64 0]) 2 67 h fun t42 Ht=>
aG (some 2) t42 t40 Ht W fun qL=>
n7 W R N E P x0 x6 x8 t42 eK gE gR qL
def n9:N7:=fun W R N E P x0 x6 x8 eK gE gR iO h=>
aE iO (
n8 W R N E P x0 x6 x8 eK gE gR h) (
E 0 [x0,x6,x8] h)
def aP:N6:=fun W R N E P x0 x6 x8 eK gE gR h=>
aa Pg .lss 3 false gR gE fun t45=>
n9 W R N E P x0 x6 x8 eK gE gR t45 h
def cn:GK:=fun W R N E P N' vs h=>aP W R N' (fun(i:Nat) (vs:List AV) (h:AH)=>if i=0 then n3 W R N E P (vs.getD 0 ab) (vs.getD 1 ab) (vs.getD 2 ab) h else E i vs h) P (vs.getD 0 ab) (vs.getD 1 ab) (vs.getD 2 ab) (vs.getD 3 ab) (vs.getD 4 ab) (vs.getD 5 ab) h
def aU:N6:=fun W R N E P x0 x6 x8 eK gE gR h=>
da (cn W R N E P) [x0,x6,x8,eK,gE,gR] h
def aQ:N4:=fun W R N E P x0 x5 x6 x8 h=>
ag (some 2) x5 fun t46=>
ai (some false) (some 1) t46 h fun t47 _=>
(aW t47=false)/\bL t47 fun t49=>
aU W R N E P x0 x6 x8 t47 t49 (.sc (.int .i64 0)) h
def a_:N5:=fun W R N E P x0 x5 x6 x8 vI h=>
aE vI (
ag (some 3) x5 fun t50=>
ai (some false) (some 1) t50 h fun t51 _=>
aC Pg W 29 [t51] h (fun t53 Dh=>
db (some (1,9,[.string ⟨#[]⟩])) 1 [(0,t53)] Dh fun t55 Fq=>
dV (some (1,16,9)) x8 t55 Fq W fun t57 tV=>
aQ W R N E P x0 x5 x6 t57 tV) P) (
aQ W R N E P x0 x5 x6 x8 h)
def bn:N4:=fun W R N E P x0 x5 x6 x8 h=>
ag (some 1) x6 fun t59=>
ai (some false) (some 1) t59 h fun t60 _=>
a_ W R N E P x0 x5 x6 x8 t60 h
def bj:N5:=fun W R N E P x0 x5 x6 x8 jQ h=>
aE jQ (
ag (some 1) x5 fun t62=>
ai (some false) (some 1) t62 h fun t63 _=>
db (some (1,9,[.string ⟨#[]⟩])) 1 [(0,t63)] h fun t65 Fk=>
dV (some (1,16,9)) x8 t65 Fk W fun t67 Fj=>
bn W R N E P x0 x5 x6 t67 Fj) (
bn W R N E P x0 x5 x6 x8 h)
def aZ:N4:=fun W R N E P x0 x5 x6 x8 h=>
ag (some 0) x6 fun t69=>
ai (some false) (some 1) t69 h fun t70 _=>
bj W R N E P x0 x5 x6 x8 t70 h
def bg:N5:=fun W R N E P x0 x5 x6 x8 cR h=>
aE cR (
ag (some 0) x5 fun t72=>
ai (some false) (some 1) t72 h fun t73 _=>
db (some (1,9,[.string ⟨#[]⟩])) 1 [(0,t73)] h fun t75 Li=>
dV (some (1,16,9)) x8 t75 Li W fun t77 Fh=>
aZ W R N E P x0 x5 x6 t77 Fh) (
aZ W R N E P x0 x5 x6 x8 h)
def bu:N4:=fun W R N E P x0 x5 x6 x8 h=>
ag (some 0) x5 fun t79=>
ai (some false) (some 1) t79 h fun t80 _=>
aa Pg .neq 9 true t80 (.sc (.string ⟨#[117,115,101]⟩)) fun t82=>
bg W R N E P x0 x5 x6 x8 t82 h
def bz:N3:=fun W R N E P x0 x5 x6 h=>
bu W R N E P x0 x5 x6 (.sc (.slice none 0 0)) h
def bC:N4:=fun W R N E P x0 x3 x5 x6 h=>
aC Pg W 51 [x0,x3] h (fun t83 Bg=>
bz W R N E P x0 x5 x6 Bg) P
def bE:N4:=fun W R N E P x0 x1 x2 x3 h=>
dF 6 46 x1 h fun t85 Fg=>
dF 4 107 x2 Fg fun t87 US=>
bC W R N E P x0 x3 t85 t87 US
theorem aI{x0 x1 x2 x3:AV}{h:AH}{M:WK}{R:RK}(hp:bE (fun id=>M id\/h.next<=id) (aH Pg [] R) (aH Pg [] R) (fun _ _ _=>False) (fun v h=>R (.bV v) h) x0 x1 x2 x3 h):ay Pg 50 [x0,x1,x2,x3] h M R:=
 fin (n:=74) (pl:=[(13,⟨[(none,(fr 0 12))],false,[],[6]⟩)]) (rs:=[]) (L:=rs) (fun c=>(a4 bE 0 1 2 3 c)) Tryz.mixed Tryz.func50 (fun c=>
(sq (a4 bE 0 1 2 3 c)
(sq (a4 bC 0 3 5 6 c)
(sq (a3 bz 0 5 6 c)
(sn
(sn
(sn
(sn
(sq (a3 n3 0 6 8 c)
(sq (a2 n2 0 6 c)
(cd (a2 n1 0 69 c) tr tr)))
(sq (a4 aQ 0 5 6 8 c)
(bk 0 (lp [0,6,8,38,39,40] rs [(0,[0,6,8])] (a6 aU 0 6 8 38 39 40 c) cn (fun i vs h=>if i=0 then n3 c.W c.R c.N c.E c.P (vs.getD 0 ab) (vs.getD 1 ab) (vs.getD 2 ab) h else c.E i vs h) (.b (.t .o)) fun c=>
(sq (a6 aP 0 6 8 38 39 40 c)
(sn
(sn
(sm (a6 n4 0 6 8 38 39 40 c))
(bk 1 (sq (a6 n8 0 6 8 38 39 40 c)
(sq (a7 n7 0 6 8 10 38 39 40 c)
(cd (a8 n6 0 6 8 10 38 39 40 46 c) (gr (gl (a7 n5 0 6 8 10 38 39 40 c))) tr)))))
(cd (a7 n9 0 6 8 38 39 40 41 c) tr tr)))))))
(sq (a4 bn 0 5 6 8 c)
(cd (a5 a_ 0 5 6 8 30 c) tr tr)))
(sq (a4 aZ 0 5 6 8 c)
(cd (a5 bj 0 5 6 8 23 c) tr tr)))
(sq (a4 bu 0 5 6 8 c)
(cd (a5 bg 0 5 6 8 16 c) tr tr))))))) hp
attribute [simp] n1 n2 n3 n4 n5 n6 n7 n8 n9 aP aQ a_ bn bj aZ bg bu bz bC bE
end iW
namespace VN
abbrev rs:List Nat:=[]
def n1:N2:=fun W _ N _ P x0 x1 h=>
aC Pg W 83 [(.sc (.string ⟨#[32,32]⟩)),x1] h (fun t1 h2=>
aC Pg W 52 [x0,t1] h2 (fun t3 h4=>
N [] h4) P) P
theorem aI{x0 x1:AV}{h:AH}{M:WK}{R:RK}(hp:n1 (fun id=>M id\/h.next<=id) (aH Pg [] R) (aH Pg [] R) (fun _ _ _=>False) (fun v h=>R (.bV v) h) x0 x1 h):ay Pg 51 [x0,x1] h M R:=
 fin (n:=8) (pl:=[]) (rs:=[]) (L:=rs) (fun c=>(a2 n1 0 1 c)) Tryz.mixed Tryz.func51 (fun c=>
(sm (a2 n1 0 1 c))) hp
attribute [simp] n1
end VN
namespace L2
abbrev rs:List Nat:=[]
def n1:N3:=fun W _ N _ P x0 x1 x8 h=>
aE x8 (
bt x0 fun t1=>
ag (some 1) t1 fun t2=>
aC Pg W 84 [t2,x1] h (fun t3 h4=>
N [] h4) P) (
N [] h)
def n2:N2:=fun W R N E P x0 x1 h=>
bt x0 fun t5=>
ag (some 1) t5 fun t6=>
aC Pg W 31 [t6] h (fun t7 h8=>
aa Pg .leq 3 true t7 (.sc (.int .i64 65536)) fun t9=>
n1 W R N E P x0 x1 t9 h8) P
theorem aI{x0 x1:AV}{h:AH}{M:WK}{R:RK}(hp:n2 (fun id=>M id\/h.next<=id) (aH Pg [] R) (aH Pg [] R) (fun _ _ _=>False) (fun v h=>R (.bV v) h) x0 x1 h):ay Pg 52 [x0,x1] h M R:=
 fin (n:=14) (pl:=[]) (rs:=[]) (L:=rs) (fun c=>(a2 n2 0 1 c)) Tryz.mixed Tryz.func52 (fun c=>
(sq (a2 n2 0 1 c)
(cd (a3 n1 0 1 8 c) tr tr))) hp
attribute [simp] n1 n2
end L2
end
section
open Go.Ab
namespace F5
abbrev rs:List Nat:=[0]
def n1:N1:=fun _ R _ _ _ x0 h=>
R [x0] h
def n2:N2:=fun W R N E P Ae Aa h=>
aJ Ae Aa (.sc (.bool false)) fun t1=>
n1 W R N E P t1 h
def n3:N2:=fun W R N E P x1 Ae h=>
bd true Ae (
ag (some 2) x1 fun t2=>
ai (some false) (some 1) t2 h fun t3 _=>
bM (some (7,none)) t3 (.sc (.int .i64 1)) fun t5=>
ag (some 6) t5 fun t6=>
ai (some false) (some 1) t6 h fun t7 _=>
aa Pg .eql 36 true t7 (.sc (.int .u64 4)) fun t9=>
n2 W R N E P Ae t9 h) (
n2 W R N E P Ae ab h)
def n4:N3:=fun W R N E P x1 eQ x84 h=>
aJ eQ x84 (.sc (.bool false)) fun t10=>
n3 W R N E P x1 t10 h
def n5:N2:=fun W R N E P x1 eQ h=>
bd true eQ (
ag (some 2) x1 fun t11=>
ai (some false) (some 1) t11 h fun t12 _=>
bM (some (7,none)) t12 (.sc (.int .i64 1)) fun t14=>
ag (some 5) t14 fun t15=>
ai (some false) (some 1) t15 h fun t16 _=>
aa Pg .eql 36 true t16 (.sc (.int .u64 4)) fun t18=>
n4 W R N E P x1 eQ t18 h) (
n4 W R N E P x1 eQ ab h)
def n6:N3:=fun W R N E P x1 Ag SJ h=>
aJ Ag SJ (.sc (.bool false)) fun t19=>
n5 W R N E P x1 t19 h
def n7:N2:=fun W R N E P x1 Ag h=>
bd true Ag (
ag (some 2) x1 fun t20=>
ai (some false) (some 1) t20 h fun t21 _=>
bM (some (7,none)) t21 (.sc (.int .i64 1)) fun t23=>
ag (some 4) t23 fun t24=>
ai (some false) (some 1) t24 h fun t25 _=>
n6 W R N E P x1 Ag t25 h) (
n6 W R N E P x1 Ag ab h)
def n8:N3:=fun W R N E P x1 oe gQ h=>
aJ oe gQ (.sc (.bool false)) fun t27=>
n7 W R N E P x1 t27 h
def n9:N2:=fun W R N E P x1 oe h=>
bd true oe (
ag (some 2) x1 fun t28=>
ai (some false) (some 1) t28 h fun t29 _=>
bM (some (7,none)) t29 (.sc (.int .i64 0)) fun t31=>
ag (some 3) t31 fun t32=>
ai (some false) (some 1) t32 h fun t33 _=>
aa Pg .eql 3 true t33 (.sc (.int .i64 2)) fun t35=>
n8 W R N E P x1 oe t35 h) (
n8 W R N E P x1 oe ab h)
def aP:N3:=fun W R N E P x1 lU ld h=>
aJ lU ld (.sc (.bool false)) fun t36=>
n9 W R N E P x1 t36 h
def aU:N2:=fun W R N E P x1 lU h=>
bd true lU (
ag (some 2) x1 fun t37=>
ai (some false) (some 1) t37 h fun t38 _=>
(aW t38=false)/\bL t38 fun t40=>
aa Pg .eql 3 true t40 (.sc (.int .i64 2)) fun t41=>
aP W R N E P x1 lU t41 h) (
aP W R N E P x1 lU ab h)
def aQ:N3:=fun W R N E P x1 kQ cA h=>
aJ kQ cA (.sc (.bool false)) fun t42=>
aU W R N E P x1 t42 h
def a_:N2:=fun W R N E P x1 kQ h=>
bd true kQ (
ag (some 1) x1 fun t43=>
ai (some false) (some 1) t43 h fun t44 _=>
aa Pg .eql 3 true t44 (.sc (.int .i64 3)) fun t46=>
aQ W R N E P x1 kQ t46 h) (
aQ W R N E P x1 kQ ab h)
def bn:N1:=fun W R N E P x1 h=>
ag (some 0) x1 fun t47=>
ai (some false) (some 1) t47 h fun t48 _=>
aa Pg .eql 3 true t48 (.sc (.int .i64 1)) fun t50=>
a_ W R N E P x1 t50 h
def bj:N0:=fun _ R _ _ _ h=>
R [(.sc (.bool false))] h
def aZ:N2:=fun W R N E P x1 ed h=>
aE ed (
bj W R N E P h) (
bn W R N E P x1 h)
def bg:N3:=fun W R N E P x1 eA iX h=>
aJ eA (.sc (.bool true)) iX fun t51=>
aZ W R N E P x1 t51 h
def bu:N3:=fun W R N E P x1 x8 eA h=>
bd false eA (
aa Pg .neq 3 true x8 (.sc (.int .i64 26)) fun t52=>
bg W R N E P x1 eA t52 h) (
bg W R N E P x1 eA ab h)
def bz:N4:=fun W R N E P x1 x8 iO fj h=>
aJ iO (.sc (.bool true)) fj fun t53=>
bu W R N E P x1 x8 t53 h
def bC:N4:=fun W R N E P x1 x8 x9 iO h=>
bd false iO (
aa Pg .neq 28 true x9 (.sc (.int .i64 115)) fun t54=>
bz W R N E P x1 x8 iO t54 h) (
bz W R N E P x1 x8 iO ab h)
def bE:N5:=fun W R N E P x1 x8 x9 eL gE h=>
aJ eL (.sc (.bool true)) gE fun t55=>
bC W R N E P x1 x8 x9 t55 h
def bG:N5:=fun W R N E P x1 x5 x8 x9 eL h=>
bd false eL (
aa Pg .neq 3 true x5 (.sc (.int .i64 11)) fun t56=>
bE W R N E P x1 x8 x9 eL t56 h) (
bE W R N E P x1 x8 x9 eL ab h)
def bD:N6:=fun W R N E P x1 x5 x8 x9 eD kR h=>
aJ eD (.sc (.bool true)) kR fun t57=>
bG W R N E P x1 x5 x8 x9 t57 h
def bZ:N6:=fun W R N E P x1 x5 x6 x8 x9 eD h=>
bd false eD (
aa Pg .neq 28 true x6 (.sc (.int .i64 114)) fun t58=>
bD W R N E P x1 x5 x8 x9 eD t58 h) (
bD W R N E P x1 x5 x8 x9 eD ab h)
def bY:N7:=fun W R N E P x1 x5 x6 x8 x9 eE fk h=>
aJ eE (.sc (.bool true)) fk fun t59=>
bZ W R N E P x1 x5 x6 x8 x9 t59 h
def bT:N7:=fun W R N E P x1 x2 x5 x6 x8 x9 eE h=>
bd false eE (
aa Pg .neq 3 true x2 (.sc (.int .i64 0)) fun t60=>
bY W R N E P x1 x5 x6 x8 x9 eE t60 h) (
bY W R N E P x1 x5 x6 x8 x9 eE ab h)
def bW:N8:=fun W R N E P x1 x2 x5 x6 x8 x9 lV gS h=>
aJ lV (.sc (.bool true)) gS fun t61=>
bT W R N E P x1 x2 x5 x6 x8 x9 t61 h
def cj:N8:=fun W R N E P x1 x2 x3 x5 x6 x8 x9 lV h=>
bd false lV (
aa Pg .neq 28 true x3 (.sc (.int .i64 0)) fun t62=>
bW W R N E P x1 x2 x5 x6 x8 x9 lV t62 h) (
bW W R N E P x1 x2 x5 x6 x8 x9 lV ab h)
def cq:N7:=fun W R N E P x1 x2 x3 x5 x6 x8 x9 h=>
cj W R N E P x1 x2 x3 x5 x6 x8 x9 (.sc (.bool false)) h
def cN:N5:=fun W R N E P x1 x2 x3 x5 x6 h=>
aC Pg W 8 [(.sc (.string ⟨#[113,117,98,105,116,115,32,113,32,49,59,32,114,101,112,101,97,116,32,53,48,48,48,32,123,32,120,32,113,91,48,93,59,32,125]⟩))] h (fun t63 Fl=>
cl t63 0 fun t65=>
cl t63 1 fun t66=>
cl t63 2 fun t67=>
bH (some [.int .i64 0,.int .i64 0,.slice none 0 0]) 3 24 Fl fun t68 Lk=>
aG (some 3) t68 t65 Lk W fun wL=>
cq W R N E P x1 x2 x3 x5 x6 t66 t67 wL) P
def cV:N3:=fun W R N E P x1 x2 x3 h=>
aC Pg W 8 [(.sc (.string ⟨#[103,97,116,101,32,103,32,120,32,123,32,103,32,120,59,32,125]⟩))] h (fun t71 Fi=>
cl t71 0 fun t73=>
cl t71 1 fun t74=>
cl t71 2 fun t75=>
bH (some [.int .i64 0,.int .i64 0,.slice none 0 0]) 3 24 Fi fun t76 h77=>
aG (some 3) t76 t73 h77 W fun Fh=>
cN W R N E P x1 x2 x3 t74 t75 Fh) P
def cX:N0:=fun W R N E P h=>
aC Pg W 8 [(.sc (.string ⟨#[113,117,98,105,116,115,32,113,32,49,59,32,98,105,116,115,32,99,32,50,59,32,98,105,116,115,32,100,32,49,59,32,109,101,97,115,117,114,101,32,113,91,48,93,32,100,91,48,93,59,32,105,102,32,100,32,49,32,123,32,120,32,113,91,48,93,59,32,125]⟩))] h (fun t79 Lh=>
cl t79 0 fun t81=>
cl t79 1 fun t82=>
cl t79 2 fun t83=>
bH (some [.int .i64 0,.int .i64 0,.slice none 0 0]) 3 24 Lh fun t84 Bf=>
aG (some 3) t84 t81 Bf W fun Fg=>
cV W R N E P t84 t82 t83 Fg) P
def dH:N0:=fun W R N E P h=>
cX W R N E P h
theorem aI{h:AH}{M:WK}{R:RK}(hp:dH (fun id=>M id\/h.next<=id) (aH Pg [.tmp 0] R) (aH Pg [.tmp 0] R) (fun _ _ _=>False) (fun v h=>R (.bV v) h) h):ay Pg 5 [] h M R:=
 fin (n:=94) (pl:=[(4,⟨[(none,(fr 0 1)),(some (0,false),(fr 1 2)),(none,(fr 3 2)),(some (4,false),(fr 5 2)),(none,(fr 7 2)),(some (8,false),(fr 9 2)),(none,(fr 11 2)),(some (12,false),(fr 13 2)),(none,(fr 15 2)),(some (16,false),(fr 17 2)),(none,(fr 19 2)),(some (20,false),(fr 21 2)),(none,(fr 23 1))],false,[],[]⟩),(6,⟨[(none,(fr 0 4)),(some (3,true),(fr 4 3)),(none,(fr 7 2)),(some (8,true),(fr 9 4)),(none,(fr 13 2)),(some (14,true),(fr 15 6)),(none,(fr 21 2)),(some (22,true),(fr 23 5)),(none,(fr 28 2)),(some (29,true),(fr 30 6)),(none,(fr 36 2)),(some (37,true),(fr 38 6)),(none,(fr 44 2))],false,[],[]⟩)]) (rs:=[.tmp 0]) (L:=rs) (fun c=>(a0 dH c)) Tryz.mixed Tryz.func5 (fun c=>
(sq (a0 dH c)
(sq (a0 cX c)
(sq (a3 cV 1 2 3 c)
(sq (a5 cN 1 2 3 5 6 c)
(sn
(sn
(sm (a1 n1 0 c))
(gr (gn (a1 bn 1 c) (gx (a2 a_ 1 52 c) (gn (a3 aQ 1 52 55 c) (gx (a2 aU 1 57 c) (gn (a3 aP 1 57 61 c) (gx (a2 n9 1 63 c) (gn (a3 n8 1 63 69 c) (gx (a2 n7 1 71 c) (gn (a3 n6 1 71 76 c) (gx (a2 n5 1 78 c) (gn (a3 n4 1 78 84 c) (gx (a2 n3 1 86 c) (gl (a2 n2 86 92 c))))))))))))))))
(sn
(cd (a2 aZ 1 48 c) (sl (a0 bj c)) tr)
(gr (gn (a7 cq 1 2 3 5 6 8 9 c) (gx (a8 cj 1 2 3 5 6 8 9 25 c) (gn (a8 bW 1 2 5 6 8 9 25 27 c) (gx (a7 bT 1 2 5 6 8 9 29 c) (gn (a7 bY 1 5 6 8 9 29 31 c) (gx (a6 bZ 1 5 6 8 9 33 c) (gn (a6 bD 1 5 8 9 33 35 c) (gx (a5 bG 1 5 8 9 37 c) (gn (a5 bE 1 8 9 37 39 c) (gx (a4 bC 1 8 9 41 c) (gn (a4 bz 1 8 41 43 c) (gx (a3 bu 1 8 45 c) (gl (a3 bg 1 45 47 c)))))))))))))))))))))) hp
attribute [simp] n1 n2 n3 n4 n5 n6 n7 n8 n9 aP aU aQ a_ bn bj aZ bg bu bz bC bE bG bD bZ bY bT bW cj cq cN cV cX dH
end F5
namespace F8
abbrev rs:List Nat:=[2,3,4]
def n1:N2:=fun W R _ _ P x2 x5 h=>
aC Pg W 20 [x5] h (fun t1 h2=>
cl t1 0 fun t3=>
cl t1 1 fun t4=>
cl t1 2 fun t5=>
aG (some 3) x2 t3 h2 W fun h6=>
R [x2,t4,t5] h6) P
def n2:N3:=fun W R _ _ _ x2 x6 x7 h=>
ck (some ([.int .i64 0,.int .i64 0,.slice none 0 0],.inl [(0,1),(1,1),(2,1)])) [] fun t7=>
aG (some 3) x2 t7 h W fun h8=>
R [x2,x6,x7] h8
def n3:N5:=fun W R N E P x2 x5 x6 x7 dn h=>
aE dn (
n2 W R N E P x2 x6 x7 h) (
n1 W R N E P x2 x5 h)
def n4:N4:=fun W R N E P x2 x5 x6 x7 h=>
aa Pg .neq 28 true x7 (.sc (.int .i64 0)) fun t9=>
n3 W R N E P x2 x5 x6 x7 t9 h
def n5:N2:=fun W R N E P x0 x2 h=>
aC Pg W 19 [x0] h (fun t10 mq=>
cl t10 0 fun t12=>
cl t10 1 fun t13=>
cl t10 2 fun t14=>
n4 W R N E P x2 t12 t13 t14 mq) P
def n6:N1:=fun W R N E P x0 h=>
bH (some [.int .i64 0,.int .i64 0,.slice none 0 0]) 3 24 h fun t15 kU=>
n5 W R N E P x0 t15 kU
theorem aI{x0:AV}{h:AH}{M:WK}{R:RK}(hp:n6 (fun id=>M id\/h.next<=id) (aH Pg [.cell 2 24,.tmp 3,.tmp 4] R) (aH Pg [.cell 2 24,.tmp 3,.tmp 4] R) (fun _ _ _=>False) (fun v h=>R (.bV v) h) x0 h):ay Pg 8 [x0] h M R:=
 fin (n:=24) (pl:=[]) (rs:=[.cell 2 24,.tmp 3,.tmp 4]) (L:=rs) (fun c=>(a1 n6 0 c)) Tryz.mixed Tryz.func8 (fun c=>
(sq (a1 n6 0 c)
(sq (a2 n5 0 2 c)
(sn
(sl (a2 n1 2 5 c))
(sq (a4 n4 2 5 6 7 c)
(cd (a5 n3 2 5 6 7 15 c) (sl (a3 n2 2 6 7 c)) tr)))))) hp
attribute [simp] n1 n2 n3 n4 n5 n6
end F8
end
section
open Go.Ab
namespace Qz
def pl:dm:=[(1,⟨[(none,(fr 0 3)),(some (2,true),(fr 3 3)),(none,(fr 6 2))],false,[],[]⟩)]
def k1:OK:=fun _ Q _ s h=>
Q .ret s h
def k2:OK:=fun W Q QP s h=>
aJ (s.tm 5) (s.tm 8) (.sc (.bool false)) fun t1=>
k1 W Q QP ⟨aj s.tm [(9,t1),(2,t1)],s.ds⟩ h
def k3:OK:=fun W Q QP s h=>
bd true (s.tm 5) (
aC Pg W 96 [(s.tm 0)] h (fun t2 h3=>
e_ .not t2 fun t4=>
k2 W Q QP ⟨aj s.tm [(6,(s.tm 0)),(7,t2),(8,t4)],s.ds⟩ h3) (QP s.ds)) (
k2 W Q QP ⟨aj s.tm [(6,ab),(7,ab),(8,ab)],s.ds⟩ h)
def k4:OK:=fun W Q QP s h=>
aC Pg W 95 [(s.tm 0)] h (fun t5 h6=>
k3 W Q QP ⟨aj s.tm [(3,(s.tm 0)),(4,t5),(5,t5)],s.ds⟩ h6) (QP s.ds)
def k5:OK:=fun W Q QP s h=>
k4 W Q QP ⟨aj s.tm [(2,(.sc (.bool false)))],s.ds⟩ h
theorem calls{x0:AV}{h:AH}{M:WK}{R:RK}(hp:k5 (fun id=>M id\/h.next<=id) (cQ Pg [.tmp 2] R) (bF R) (s0 [x0]) h):ay Pg 73 [x0] h M R:=
 kI (n:=10) (pl:=pl) k5 Tryz.mixed Tryz.func73 (fun W Q QP=>
(sq (k5 W Q QP)
(sn
(sm (k1 W Q QP))
(gr (gn (k4 W Q QP) (gx (k3 W Q QP) (gl (k2 W Q QP)))))))) hp
attribute [simp] k1 k2 k3 k4 k5
end Qz
namespace BF
section
variable (W:WK) (Q:cG) (QP:cm) (s:St) (h:AH)
noncomputable def code:Code:=Tryz.f95.body.getD .skip
def pl:dm:=[(1,⟨[(none,(fr 0 3)),(some (2,false),(fr 3 3)),(none,(fr 6 1))],false,[],[]⟩),(6,⟨[(none,(fr 0 6)),(some (5,true),(fr 6 5)),(none,(fr 11 1))],false,[],[]⟩)]
def k1:OK:=fun _ Q _ s h=>
Q .ret ⟨aj s.tm [(2,(.sc (.bool true)))],s.ds⟩ h
def k2:OK:=fun _ Q _ s h=>
aa Pg .add 3 true (s.tm 3) (.sc (.int .i64 1)) fun t1=>
Q .normal ⟨aj s.tm [(15,(s.tm 3)),(16,t1),(3,t1)],s.ds⟩ h
def k3:OK:=fun _ Q _ s h=>
Q .ret ⟨aj s.tm [(2,(.sc (.bool false)))],s.ds⟩ h
def k4:OK:=fun W Q QP s h=>
aE (s.tm 28) (
k3 W Q QP s h) (
k2 W Q QP s h)
def k5:OK:=fun W Q QP s h=>
aJ (s.tm 22) (s.tm 27) (.sc (.bool false)) fun t2=>
k4 W Q QP ⟨aj s.tm [(28,t2)],s.ds⟩ h
def k6:OK:=fun W Q QP s h=>
bd true (s.tm 22) (
oC true (s.tm 0) (s.tm 3) fun t3=>
aC Pg W 115 [t3] h (fun t4 h5=>
e_ .not t4 fun t6=>
k5 W Q QP ⟨aj s.tm [(23,(s.tm 0)),(24,(s.tm 3)),(25,t3),(26,t4),(27,t6)],s.ds⟩ h5) (QP s.ds)) (
k5 W Q QP ⟨aj s.tm [(23,ab),(24,ab),(25,ab),(26,ab),(27,ab)],s.ds⟩ h)
def k7:OK:=fun W Q QP s h=>
oC true (s.tm 0) (s.tm 3) fun t7=>
aC Pg W 116 [t7] h (fun t8 h9=>
e_ .not t8 fun t10=>
k6 W Q QP ⟨aj s.tm [(17,(s.tm 0)),(18,(s.tm 3)),(19,t7),(20,t8),(21,t10),(22,t10)],s.ds⟩ h9) (QP s.ds)
def k8:OK:=fun W Q QP s h=>
aE (s.tm 14) (
k7 W Q QP s h) (
Q (.exit 0) s h)
def k9:OK:=fun W Q QP s h=>
(aW (s.tm 0)=true)/\bL (s.tm 0) fun t11=>
aa Pg .lss 3 false (s.tm 3) t11 fun t12=>
k8 W Q QP ⟨aj s.tm [(11,(s.tm 3)),(12,(s.tm 0)),(13,t11),(14,t12)],s.ds⟩ h
noncomputable def c1:Code:=Code.at code [1,1,0,1,0,0]
theorem l1:aw Pg 29 W pl c1 Q QP s h=k9 W Q QP s h:=congrFun (congrFun (show TB ⟨Pg,29,pl⟩ W QP c1 Q (k9 W Q QP) from
(sn
(sn
(sm (k2 W Q QP))
(bk 1 (sn
(cd (k4 W Q QP) (sl (k3 W Q QP)) tr)
(gr (gn (k7 W Q QP) (gx (k6 W Q QP) (gl (k5 W Q QP))))))))
(sq (k9 W Q QP)
(cd (k8 W Q QP) tr tr)))) s) h
def dI:OK:=fun W Q QP s h=>lb (aw Pg 29 W pl c1) (eG 0 (b_ (k1 W Q QP) (Q))) QP s h
def ep:OK:=fun W Q QP s h=>
dI W Q QP ⟨aj s.tm [(3,(.sc (.int .i64 0)))],s.ds⟩ h
def gY:OK:=fun _ Q _ s h=>
Q .ret ⟨aj s.tm [(2,(.sc (.bool false)))],s.ds⟩ h
def jh:OK:=fun W Q QP s h=>
aE (s.tm 10) (
gY W Q QP s h) (
ep W Q QP s h)
def jc:OK:=fun W Q QP s h=>
aJ (s.tm 6) (.sc (.bool true)) (s.tm 9) fun t13=>
jh W Q QP ⟨aj s.tm [(10,t13)],s.ds⟩ h
def iR:OK:=fun W Q QP s h=>
bd false (s.tm 6) (
oC true (s.tm 0) (.sc (.int .i64 0)) fun t14=>
aC Pg W 115 [t14] h (fun t15 kU=>
jc W Q QP ⟨aj s.tm [(7,(s.tm 0)),(8,t14),(9,t15)],s.ds⟩ kU) (QP s.ds)) (
jc W Q QP ⟨aj s.tm [(7,ab),(8,ab),(9,ab)],s.ds⟩ h)
def jR:OK:=fun W Q QP s h=>
aa Pg .eql 9 true (s.tm 0) (.sc (.string ⟨#[]⟩)) fun t17=>
iR W Q QP ⟨aj s.tm [(4,(s.tm 0)),(5,t17),(6,t17)],s.ds⟩ h
def jb:OK:=fun W Q QP s h=>
jR W Q QP ⟨aj s.tm [(2,(.sc (.bool false)))],s.ds⟩ h
end
theorem calls{x0:AV}{h:AH}{M:WK}{R:RK}(hp:jb (fun id=>M id\/h.next<=id) (cQ Pg [.tmp 2] R) (bF R) (s0 [x0]) h):ay Pg 95 [x0] h M R:=
 kI (n:=29) (pl:=pl) jb Tryz.mixed Tryz.func95 (fun W Q QP=>
(sq (jb W Q QP)
(sn
(sn
(sl (k1 W Q QP))
(sq (ep W Q QP)
(bk 0 (lo (dI W Q QP)))))
(sn
(cd (jh W Q QP) (sl (gY W Q QP)) tr)
(gr (gn (jR W Q QP) (gx (iR W Q QP) (gl (jc W Q QP))))))))) hp
attribute [simp] k1 k2 k3 k4 k5 k6 k7 k8 k9 dI ep gY jh jc iR jR jb
end BF
namespace YY
def pl:dm:=[]
def k1:OK:=fun _ Q _ s h=>
Q .ret ⟨aj s.tm [(2,(.sc (.bool false)))],s.ds⟩ h
def k2:OK:=fun _ Q _ s h=>
Q .ret ⟨aj s.tm [(2,(.sc (.bool true)))],s.ds⟩ h
def k3:OK:=fun W Q QP s h=>
aE (s.tm 4) (
k2 W Q QP s h) (
k1 W Q QP s h)
def k4:OK:=fun W Q QP s h=>
aE (s.tm 4) (
k3 W Q QP s h) (
aa Pg .eql 9 true (s.tm 3) (.sc (.string ⟨#[114,101,115,101,116]⟩)) fun t1=>
k3 W Q QP ⟨aj s.tm [(11,t1),(4,t1)],s.ds⟩ h)
def k5:OK:=fun W Q QP s h=>
aa Pg .eql 9 true (s.tm 3) (.sc (.string ⟨#[109,101,97,115,117,114,101]⟩)) fun t2=>
k4 W Q QP ⟨aj s.tm [(10,t2),(4,t2)],s.ds⟩ h
def k6:OK:=fun W Q QP s h=>
aE (s.tm 4) (
k3 W Q QP s h) (
k5 W Q QP s h)
def k7:OK:=fun W Q QP s h=>
aa Pg .eql 9 true (s.tm 3) (.sc (.string ⟨#[105,102]⟩)) fun t3=>
k6 W Q QP ⟨aj s.tm [(9,t3),(4,t3)],s.ds⟩ h
def k8:OK:=fun W Q QP s h=>
aE (s.tm 4) (
k3 W Q QP s h) (
k7 W Q QP s h)
def k9:OK:=fun W Q QP s h=>
aa Pg .eql 9 true (s.tm 3) (.sc (.string ⟨#[114,101,112,101,97,116]⟩)) fun t4=>
k8 W Q QP ⟨aj s.tm [(8,t4),(4,t4)],s.ds⟩ h
def dI:OK:=fun W Q QP s h=>
aE (s.tm 4) (
k3 W Q QP s h) (
k9 W Q QP s h)
def ep:OK:=fun W Q QP s h=>
aa Pg .eql 9 true (s.tm 3) (.sc (.string ⟨#[103,97,116,101]⟩)) fun t5=>
dI W Q QP ⟨aj s.tm [(7,t5),(4,t5)],s.ds⟩ h
def gY:OK:=fun W Q QP s h=>
aE (s.tm 4) (
k3 W Q QP s h) (
ep W Q QP s h)
def jh:OK:=fun W Q QP s h=>
aa Pg .eql 9 true (s.tm 3) (.sc (.string ⟨#[98,105,116,115]⟩)) fun t6=>
gY W Q QP ⟨aj s.tm [(6,t6),(4,t6)],s.ds⟩ h
def jc:OK:=fun W Q QP s h=>
aE (s.tm 4) (
k3 W Q QP s h) (
jh W Q QP s h)
def iR:OK:=fun W Q QP s h=>
aa Pg .eql 9 true (s.tm 3) (.sc (.string ⟨#[113,117,98,105,116,115]⟩)) fun t7=>
jc W Q QP ⟨aj s.tm [(5,t7),(4,t7)],s.ds⟩ h
def jR:OK:=fun W Q QP s h=>
iR W Q QP ⟨aj s.tm [(3,(s.tm 0))],s.ds⟩ h
def jb:OK:=fun W Q QP s h=>
jR W Q QP ⟨aj s.tm [(2,(.sc (.bool false)))],s.ds⟩ h
theorem calls{x0:AV}{h:AH}{M:WK}{R:RK}(hp:jb (fun id=>M id\/h.next<=id) (cQ Pg [.tmp 2] R) (bF R) (s0 [x0]) h):ay Pg 96 [x0] h M R:=
 kI (n:=12) (pl:=pl) jb Tryz.mixed Tryz.func96 (fun W Q QP=>
(sq (jb W Q QP)
(sn
(sl (k1 W Q QP))
(sq (jR W Q QP)
(bk 0 (sn
(cd (k3 W Q QP) (sl (k2 W Q QP)) tr)
(sq (iR W Q QP)
(cd (jc W Q QP) tr (sq (jh W Q QP)
(cd (gY W Q QP) tr (sq (ep W Q QP)
(cd (dI W Q QP) tr (sq (k9 W Q QP)
(cd (k8 W Q QP) tr (sq (k7 W Q QP)
(cd (k6 W Q QP) tr (sq (k5 W Q QP)
(cd (k4 W Q QP) tr tr)))))))))))))))))) hp
attribute [simp] k1 k2 k3 k4 k5 k6 k7 k8 k9 dI ep gY jh jc iR jR jb
end YY
end
section
open Go.Ab
namespace Ze
def pl:dm:=[]
def k1:OK:=fun _ Q _ s h=>
bt (s.tm 0) fun t1=>
ag (some 1) t1 fun t2=>
ai (some false) (some 1) t2 h fun t3 _=>
(aW t3=false)/\bL t3 fun t5=>
Q .ret ⟨aj s.tm [(3,(s.tm 0)),(4,t1),(5,t2),(6,t3),(7,t5),(2,t5)],s.ds⟩ h
def k2:OK:=fun W Q QP s h=>
k1 W Q QP ⟨aj s.tm [(2,(.sc (.int .i64 0)))],s.ds⟩ h
theorem calls{x0:AV}{h:AH}{M:WK}{R:RK}(hp:k2 (fun id=>M id\/h.next<=id) (cQ Pg [.tmp 2] R) (bF R) (s0 [x0]) h):ay Pg 31 [x0] h M R:=
 kI (n:=8) (pl:=pl) k2 Tryz.mixed Tryz.func31 (fun W Q QP=>
(sq (k2 W Q QP)
(sl (k1 W Q QP)))) hp
attribute [simp] k1 k2
end Ze
namespace Zb
def pl:dm:=[]
def k1:OK:=fun W Q _ s h=>
ck (some ([.bool false,.bool false,.int .i64 0,.bool false],.inl [(0,1),(1,1),(2,1),(3,1)])) [] fun t1=>
aG (some 4) (s.tm 2) t1 h W fun h2=>
Q .ret ⟨aj s.tm [(27,t1),(3,(.sc (.bool false)))],s.ds⟩ h2
def k2:OK:=fun W Q _ s h=>
ck (some ([.bool false,.bool false,.int .i64 0,.bool false],.inl [(0,1),(1,1),(2,1),(3,1)])) [(0,(.sc (.bool true))),(1,(.sc (.bool true)))] fun t3=>
aG (some 4) (s.tm 2) t3 h W fun h4=>
Q .ret ⟨aj s.tm [(8,t3),(3,(.sc (.bool true)))],s.ds⟩ h4
def k3:OK:=fun W Q _ s h=>
ck (some ([.bool false,.bool false,.int .i64 0,.bool false],.inl [(0,1),(1,1),(2,1),(3,1)])) [(0,(.sc (.bool true))),(2,(.sc (.int .i64 (-1)))),(3,(.sc (.bool true)))] fun t5=>
aG (some 4) (s.tm 2) t5 h W fun h6=>
Q .ret ⟨aj s.tm [(11,t5),(3,(.sc (.bool true)))],s.ds⟩ h6
def k4:OK:=fun W Q _ s h=>
ck (some ([.bool false,.bool false,.int .i64 0,.bool false],.inl [(0,1),(1,1),(2,1),(3,1)])) [(1,(.sc (.bool true))),(3,(.sc (.bool true)))] fun t7=>
aG (some 4) (s.tm 2) t7 h W fun h8=>
Q .ret ⟨aj s.tm [(14,t7),(3,(.sc (.bool true)))],s.ds⟩ h8
def k5:OK:=fun W Q _ s h=>
ck (some ([.bool false,.bool false,.int .i64 0,.bool false],.inl [(0,1),(1,1),(2,1),(3,1)])) [(0,(.sc (.bool true))),(1,(.sc (.bool true))),(3,(.sc (.bool true)))] fun t9=>
aG (some 4) (s.tm 2) t9 h W fun kV=>
Q .ret ⟨aj s.tm [(17,t9),(3,(.sc (.bool true)))],s.ds⟩ kV
def k6:OK:=fun W Q _ s h=>
ck (some ([.bool false,.bool false,.int .i64 0,.bool false],.inl [(0,1),(1,1),(2,1),(3,1)])) [(2,(.sc (.int .i64 2)))] fun t11=>
aG (some 4) (s.tm 2) t11 h W fun pb=>
Q .ret ⟨aj s.tm [(20,t11),(3,(.sc (.bool true)))],s.ds⟩ pb
def k7:OK:=fun W Q _ s h=>
ck (some ([.bool false,.bool false,.int .i64 0,.bool false],.inl [(0,1),(1,1),(2,1),(3,1)])) [(2,(.sc (.int .i64 1)))] fun t13=>
aG (some 4) (s.tm 2) t13 h W fun sU=>
Q .ret ⟨aj s.tm [(23,t13),(3,(.sc (.bool true)))],s.ds⟩ sU
def k8:OK:=fun W Q _ s h=>
ck (some ([.bool false,.bool false,.int .i64 0,.bool false],.inl [(0,1),(1,1),(2,1),(3,1)])) [(0,(.sc (.bool true))),(2,(.sc (.int .i64 (-1))))] fun t15=>
aG (some 4) (s.tm 2) t15 h W fun kU=>
Q .ret ⟨aj s.tm [(26,t15),(3,(.sc (.bool true)))],s.ds⟩ kU
def k9:OK:=fun W Q QP s h=>
aE (s.tm 24) (
k8 W Q QP s h) (
k1 W Q QP s h)
def dI:OK:=fun W Q QP s h=>
aa Pg .eql 9 true (s.tm 4) (.sc (.string ⟨#[117,115,101]⟩)) fun t17=>
k9 W Q QP ⟨aj s.tm [(25,t17),(24,t17)],s.ds⟩ h
def ep:OK:=fun W Q QP s h=>
aE (s.tm 21) (
k7 W Q QP s h) (
dI W Q QP s h)
def gY:OK:=fun W Q QP s h=>
aa Pg .eql 9 true (s.tm 4) (.sc (.string ⟨#[114,101,115,101,116]⟩)) fun t18=>
ep W Q QP ⟨aj s.tm [(22,t18),(21,t18)],s.ds⟩ h
def jh:OK:=fun W Q QP s h=>
aE (s.tm 18) (
k6 W Q QP s h) (
gY W Q QP s h)
def jc:OK:=fun W Q QP s h=>
aa Pg .eql 9 true (s.tm 4) (.sc (.string ⟨#[109,101,97,115,117,114,101]⟩)) fun t19=>
jh W Q QP ⟨aj s.tm [(19,t19),(18,t19)],s.ds⟩ h
def iR:OK:=fun W Q QP s h=>
aE (s.tm 15) (
k5 W Q QP s h) (
jc W Q QP s h)
def jR:OK:=fun W Q QP s h=>
aa Pg .eql 9 true (s.tm 4) (.sc (.string ⟨#[105,102]⟩)) fun t20=>
iR W Q QP ⟨aj s.tm [(16,t20),(15,t20)],s.ds⟩ h
def jb:OK:=fun W Q QP s h=>
aE (s.tm 12) (
k4 W Q QP s h) (
jR W Q QP s h)
def oV:OK:=fun W Q QP s h=>
aa Pg .eql 9 true (s.tm 4) (.sc (.string ⟨#[114,101,112,101,97,116]⟩)) fun t21=>
jb W Q QP ⟨aj s.tm [(13,t21),(12,t21)],s.ds⟩ h
def oU:OK:=fun W Q QP s h=>
aE (s.tm 9) (
k3 W Q QP s h) (
oV W Q QP s h)
def oE:OK:=fun W Q QP s h=>
aa Pg .eql 9 true (s.tm 4) (.sc (.string ⟨#[103,97,116,101]⟩)) fun t22=>
oU W Q QP ⟨aj s.tm [(10,t22),(9,t22)],s.ds⟩ h
def qa:OK:=fun W Q QP s h=>
aE (s.tm 5) (
k2 W Q QP s h) (
oE W Q QP s h)
def mQ:OK:=fun W Q QP s h=>
aE (s.tm 5) (
qa W Q QP s h) (
aa Pg .eql 9 true (s.tm 4) (.sc (.string ⟨#[98,105,116,115]⟩)) fun t23=>
qa W Q QP ⟨aj s.tm [(7,t23),(5,t23)],s.ds⟩ h)
def p_:OK:=fun W Q QP s h=>
aa Pg .eql 9 true (s.tm 4) (.sc (.string ⟨#[113,117,98,105,116,115]⟩)) fun t24=>
mQ W Q QP ⟨aj s.tm [(6,t24),(5,t24)],s.ds⟩ h
def oT:OK:=fun W Q QP s h=>
p_ W Q QP ⟨aj s.tm [(4,(s.tm 0))],s.ds⟩ h
def sH:OK:=fun W Q QP s h=>
bH (some [.bool false,.bool false,.int .i64 0,.bool false]) 4 107 h fun t25 mV=>
oT W Q QP ⟨aj s.tm [(2,t25),(3,(.sc (.bool false)))],s.ds⟩ mV
theorem calls{x0:AV}{h:AH}{M:WK}{R:RK}(hp:sH (fun id=>M id\/h.next<=id) (cQ Pg [.cell 2 107,.tmp 3] R) (bF R) (s0 [x0]) h):ay Pg 48 [x0] h M R:=
 kI (n:=28) (pl:=pl) sH Tryz.mixed Tryz.func48 (fun W Q QP=>
(sq (sH W Q QP)
(sn
(sl (k1 W Q QP))
(sq (oT W Q QP)
(bk 0 (sn
(cd (qa W Q QP) (sl (k2 W Q QP)) (sq (oE W Q QP)
(cd (oU W Q QP) (sl (k3 W Q QP)) (sq (oV W Q QP)
(cd (jb W Q QP) (sl (k4 W Q QP)) (sq (jR W Q QP)
(cd (iR W Q QP) (sl (k5 W Q QP)) (sq (jc W Q QP)
(cd (jh W Q QP) (sl (k6 W Q QP)) (sq (gY W Q QP)
(cd (ep W Q QP) (sl (k7 W Q QP)) (sq (dI W Q QP)
(cd (k9 W Q QP) (sl (k8 W Q QP)) tr)))))))))))))
(sq (p_ W Q QP)
(cd (mQ W Q QP) tr tr)))))))) hp
attribute [simp] k1 k2 k3 k4 k5 k6 k7 k8 k9 dI ep gY jh jc iR jR jb oV oU oE qa mQ p_ oT sH
end Zb
namespace Qx
def pl:dm:=[(1,⟨[(none,(fr 0 3)),(some (2,true),(fr 3 3)),(none,(fr 6 2))],false,[],[]⟩)]
def k1:OK:=fun _ Q _ s h=>
Q .ret s h
def k2:OK:=fun W Q QP s h=>
aJ (s.tm 5) (s.tm 8) (.sc (.bool false)) fun t1=>
k1 W Q QP ⟨aj s.tm [(9,t1),(2,t1)],s.ds⟩ h
def k3:OK:=fun W Q QP s h=>
bd true (s.tm 5) (
aC Pg W 87 [(s.tm 0)] h (fun t2 h3=>
e_ .not t2 fun t4=>
k2 W Q QP ⟨aj s.tm [(6,(s.tm 0)),(7,t2),(8,t4)],s.ds⟩ h3) (QP s.ds)) (
k2 W Q QP ⟨aj s.tm [(6,ab),(7,ab),(8,ab)],s.ds⟩ h)
def k4:OK:=fun W Q QP s h=>
aC Pg W 107 [(s.tm 0)] h (fun t5 h6=>
k3 W Q QP ⟨aj s.tm [(3,(s.tm 0)),(4,t5),(5,t5)],s.ds⟩ h6) (QP s.ds)
def k5:OK:=fun W Q QP s h=>
k4 W Q QP ⟨aj s.tm [(2,(.sc (.bool false)))],s.ds⟩ h
theorem calls{x0:AV}{h:AH}{M:WK}{R:RK}(hp:k5 (fun id=>M id\/h.next<=id) (cQ Pg [.tmp 2] R) (bF R) (s0 [x0]) h):ay Pg 80 [x0] h M R:=
 kI (n:=10) (pl:=pl) k5 Tryz.mixed Tryz.func80 (fun W Q QP=>
(sq (k5 W Q QP)
(sn
(sm (k1 W Q QP))
(gr (gn (k4 W Q QP) (gx (k3 W Q QP) (gl (k2 W Q QP)))))))) hp
attribute [simp] k1 k2 k3 k4 k5
end Qx
namespace Y2
def pl:dm:=[(1,⟨[(none,(fr 0 3)),(some (2,true),(fr 3 2)),(none,(fr 5 2))],false,[],[]⟩)]
def k1:OK:=fun _ Q _ s h=>
Q .ret s h
def k2:OK:=fun W Q QP s h=>
aJ (s.tm 5) (s.tm 7) (.sc (.bool false)) fun t1=>
k1 W Q QP ⟨aj s.tm [(8,t1),(2,t1)],s.ds⟩ h
def k3:OK:=fun W Q QP s h=>
bd true (s.tm 5) (
aa Pg .leq 3 true (s.tm 0) (.sc (.int .i64 9007199254740991)) fun t2=>
k2 W Q QP ⟨aj s.tm [(6,(s.tm 0)),(7,t2)],s.ds⟩ h) (
k2 W Q QP ⟨aj s.tm [(6,ab),(7,ab)],s.ds⟩ h)
def k4:OK:=fun W Q QP s h=>
aa Pg .geq 3 true (s.tm 0) (.sc (.int .i64 0)) fun t3=>
k3 W Q QP ⟨aj s.tm [(3,(s.tm 0)),(4,t3),(5,t3)],s.ds⟩ h
def k5:OK:=fun W Q QP s h=>
k4 W Q QP ⟨aj s.tm [(2,(.sc (.bool false)))],s.ds⟩ h
theorem calls{x0:AV}{h:AH}{M:WK}{R:RK}(hp:k5 (fun id=>M id\/h.next<=id) (cQ Pg [.tmp 2] R) (bF R) (s0 [x0]) h):ay Pg 81 [x0] h M R:=
 kI (n:=9) (pl:=pl) k5 Tryz.mixed Tryz.func81 (fun W Q QP=>
(sq (k5 W Q QP)
(sn
(sm (k1 W Q QP))
(gr (gn (k4 W Q QP) (gx (k3 W Q QP) (gl (k2 W Q QP)))))))) hp
attribute [simp] k1 k2 k3 k4 k5
end Y2
namespace HQ
def pl:dm:=[]
def k1:OK:=fun _ Q _ s h=>
(aW (s.tm 1)=true)/\bL (s.tm 1) fun t1=>
Q .ret ⟨aj s.tm [(17,(s.tm 1)),(18,t1),(4,t1),(5,(.sc (.nilIface)))],s.ds⟩ h
def k2:OK:=fun W Q QP s h=>
bt (s.tm 0) fun t2=>
ag (some 1) t2 fun t3=>
ai (some false) (some 1) t3 h fun t4 _=>
re (some 5) t4 (s.tm 1) h W fun t6 h7=>
bt (s.tm 0) fun t8=>
ag (some 1) t8 fun t9=>
aG (some 1) t9 t6 h7 W fun kV=>
k1 W Q QP ⟨aj s.tm [(8,(s.tm 0)),(9,(s.tm 0)),(10,t2),(11,t3),(12,t4),(13,(s.tm 1)),(14,t6),(15,t8),(16,t9)],s.ds⟩ kV
def k3:OK:=fun W Q QP s h=>
aC Pg W 111 [(s.tm 0)] h (fun t11 pb=>
k2 W Q QP ⟨aj s.tm [(6,(s.tm 0)),(7,t11)],s.ds⟩ pb) (QP s.ds)
def k4:OK:=fun W Q QP s h=>
k3 W Q QP ⟨aj s.tm [(4,(.sc (.int .i64 0))),(5,(.sc (.nilIface)))],s.ds⟩ h
theorem calls{x0 x1:AV}{h:AH}{M:WK}{R:RK}(hp:k4 (fun id=>M id\/h.next<=id) (cQ Pg [.tmp 4,.tmp 5] R) (bF R) (s0 [x0,x1]) h):ay Pg 84 [x0,x1] h M R:=
 kI (n:=19) (pl:=pl) k4 Tryz.mixed Tryz.func84 (fun W Q QP=>
(sq (k4 W Q QP)
(sq (k3 W Q QP)
(sq (k2 W Q QP)
(sl (k1 W Q QP)))))) hp
attribute [simp] k1 k2 k3 k4
end HQ
namespace Ju
def pl:dm:=[(1,⟨[(none,(fr 0 3)),(some (2,true),(fr 3 3)),(none,(fr 6 2)),(some (7,true),(fr 8 5)),(none,(fr 13 2))],false,[],[]⟩)]
def k1:OK:=fun _ Q _ s h=>
Q .ret s h
def k2:OK:=fun W Q QP s h=>
aJ (s.tm 10) (s.tm 15) (.sc (.bool false)) fun t1=>
k1 W Q QP ⟨aj s.tm [(16,t1),(2,t1)],s.ds⟩ h
def k3:OK:=fun W Q QP s h=>
bd true (s.tm 10) (
aC Pg W 53 [(s.tm 0),(.sc (.int .i64 0)),(.fn (.func 56) [] [])] h (fun t2 h3=>
(aW (s.tm 0)=true)/\bL (s.tm 0) fun t4=>
aa Pg .eql 3 false t2 t4 fun t5=>
k2 W Q QP ⟨aj s.tm [(11,(s.tm 0)),(12,t2),(13,(s.tm 0)),(14,t4),(15,t5)],s.ds⟩ h3) (QP s.ds)) (
k2 W Q QP ⟨aj s.tm [(11,ab),(12,ab),(13,ab),(14,ab),(15,ab)],s.ds⟩ h)
def k4:OK:=fun W Q QP s h=>
aJ (s.tm 5) (s.tm 8) (.sc (.bool false)) fun t6=>
k3 W Q QP ⟨aj s.tm [(9,t6),(10,t6)],s.ds⟩ h
def k5:OK:=fun W Q QP s h=>
bd true (s.tm 5) (
oC true (s.tm 0) (.sc (.int .i64 0)) fun t7=>
aC Pg W 55 [t7] h (fun t8 h9=>
k4 W Q QP ⟨aj s.tm [(6,(s.tm 0)),(7,t7),(8,t8)],s.ds⟩ h9) (QP s.ds)) (
k4 W Q QP ⟨aj s.tm [(6,ab),(7,ab),(8,ab)],s.ds⟩ h)
def k6:OK:=fun W Q QP s h=>
aa Pg .neq 9 true (s.tm 0) (.sc (.string ⟨#[]⟩)) fun t10=>
k5 W Q QP ⟨aj s.tm [(3,(s.tm 0)),(4,t10),(5,t10)],s.ds⟩ h
def k7:OK:=fun W Q QP s h=>
k6 W Q QP ⟨aj s.tm [(2,(.sc (.bool false)))],s.ds⟩ h
theorem calls{x0:AV}{h:AH}{M:WK}{R:RK}(hp:k7 (fun id=>M id\/h.next<=id) (cQ Pg [.tmp 2] R) (bF R) (s0 [x0]) h):ay Pg 107 [x0] h M R:=
 kI (n:=17) (pl:=pl) k7 Tryz.mixed Tryz.func107 (fun W Q QP=>
(sq (k7 W Q QP)
(sn
(sm (k1 W Q QP))
(gr (gn (k6 W Q QP) (gx (k5 W Q QP) (gn (k4 W Q QP) (gx (k3 W Q QP) (gl (k2 W Q QP)))))))))) hp
attribute [simp] k1 k2 k3 k4 k5 k6 k7
end Ju
end
section
open Go.Ab
namespace F3
abbrev rs:List Nat:=[2]
def n1:N1:=fun _ R _ _ _ x2 h=>
R [x2] h
def n2:N2:=fun W R N E P Aj lV h=>
aJ Aj lV (.sc (.bool false)) fun t1=>
n1 W R N E P t1 h
def n3:N3:=fun W R N E P x4 x6 Aj h=>
bd true Aj (
aa Pg .eql 3 false x6 x4 fun t2=>
n2 W R N E P Aj t2 h) (
n2 W R N E P Aj ab h)
def n4:N4:=fun W R N E P x3 x4 x5 x6 h=>
aa Pg .eql 9 false x5 x3 fun t3=>
n3 W R N E P x4 x6 t3 h
def n5:N3:=fun W R N E P x1 x3 x4 h=>
ai (some true) (some 3) x1 h fun t4 _=>
aC Pg W 7 [t4] h (fun t6 h7=>
cl t6 0 fun t8=>
cl t6 1 fun t9=>
n4 W R N E P x3 x4 t8 t9 h7) P
def n6:N1:=fun W R N E P x1 h=>
ai (some true) (some 3) x1 h fun t10 _=>
aC Pg W 6 [t10] h (fun t12 wO=>
cl t12 0 fun t14=>
cl t12 1 fun t15=>
n5 W R N E P x1 t14 t15 wO) P
def n7:N0:=fun _ R _ _ _ h=>
R [(.sc (.bool false))] h
def n8:N2:=fun W R N E P x1 x8 h=>
aE x8 (
n7 W R N E P h) (
n6 W R N E P x1 h)
def n9:N1:=fun W R N E P x1 h=>
aC Pg W 5 [] h (fun t16 sT=>
e_ .not t16 fun t18=>
n8 W R N E P x1 t18 sT) P
def aP:N1:=fun W R N E P x0 h=>
dF 3 24 x0 h fun t19 qM=>
n9 W R N E P t19 qM
theorem aI{x0:AV}{h:AH}{M:WK}{R:RK}(hp:aP (fun id=>M id\/h.next<=id) (aH Pg [.tmp 2] R) (aH Pg [.tmp 2] R) (fun _ _ _=>False) (fun v h=>R (.bV v) h) x0 h):ay Pg 3 [x0] h M R:=
 fin (n:=27) (pl:=[(5,⟨[(none,(fr 0 4)),(some (3,true),(fr 4 3)),(none,(fr 7 2))],false,[],[]⟩)]) (rs:=[.tmp 2]) (L:=rs) (fun c=>(a1 aP 0 c)) Tryz.mixed Tryz.func3 (fun c=>
(sq (a1 aP 0 c)
(sn
(sq (a1 n6 1 c)
(sq (a3 n5 1 3 4 c)
(sn
(sm (a1 n1 2 c))
(gr (gn (a4 n4 3 4 5 6 c) (gx (a3 n3 4 6 22 c) (gl (a2 n2 22 25 c))))))))
(sq (a1 n9 1 c)
(cd (a2 n8 1 8 c) (sl (a0 n7 c)) tr))))) hp
attribute [simp] n1 n2 n3 n4 n5 n6 n7 n8 n9 aP
end F3
namespace F6
abbrev rs:List Nat:=[2,3]
def n1:N2:=fun _ R _ _ _ aA aS h=>
R [aA,aS] h
def n2:N0:=fun _ R _ _ _ h=>
R [(.sc (.string ⟨#[]⟩)),(.sc (.int .i64 1))] h
def n3:N3:=fun W R N E P aA aS SB h=>
aE SB (
n2 W R N E P h) (
n1 W R N E P aA aS h)
def n4:N4:=fun W R N E P aA aS iN Ad h=>
aJ iN (.sc (.bool true)) Ad fun t1=>
n3 W R N E P aA aS t1 h
def n5:N5:=fun W R N E P aA aS iN Jz Ae h=>
bd false iN (
aJ Jz Ae (.sc (.bool false)) fun t2=>
n4 W R N E P aA aS iN t2 h) (
n4 W R N E P aA aS iN ab h)
def n6:N4:=fun W R N E P aA aS iN Jz h=>
bd true Jz (
(aW aA=true)/\bL aA fun t3=>
aa Pg .gtr 3 true t3 (.sc (.int .i64 65536)) fun t4=>
n5 W R N E P aA aS iN Jz t4 h) (
n5 W R N E P aA aS iN Jz ab h)
def n7:N3:=fun W R N E P aA aS iN h=>
bd false iN (
aa Pg .eql 3 true aS (.sc (.int .i64 0)) fun t5=>
n6 W R N E P aA aS iN t5 h) (
n6 W R N E P aA aS iN ab h)
def n8:N2:=fun W R N E P aA aS h=>
aa Pg .eql 3 true aS (.sc (.int .i64 1)) fun t6=>
n7 W R N E P aA aS t6 h
def n9:N1:=fun W R N E P x7 h=>
aC Pg W 13 [x7] h (fun t7 h8=>
cl t7 0 fun t9=>
cl t7 1 fun t10=>
n8 W R N E P t9 t10 h8) P
def aP:N4:=fun _ _ N _ _ x1 x6 x7 x9 h=>
aa Pg .add 3 true x9 (.sc (.int .i64 1)) fun t11=>
N [x1,x6,x7,t11] h
def aU:N5:=fun W R N E P x1 x6 x7 x9 ap h=>
dV (some (6,80,46)) x7 ap h W fun t12 wO=>
aP W R N E P x1 x6 t12 x9 wO
def aQ:N0:=fun _ R _ _ _ h=>
R [(.sc (.string ⟨#[]⟩)),(.sc (.int .i64 102))] h
def a_:N6:=fun W R N E P x1 x6 x7 x9 ap gQ h=>
aE gQ (
aQ W R N E P h) (
aU W R N E P x1 x6 x7 x9 ap h)
def bn:N5:=fun W R N E P x1 x6 x7 x9 ap h=>
(aW ap=false)/\bL ap fun t14=>
aa Pg .sub 3 true t14 (.sc (.int .i64 1)) fun t15=>
aa Pg .gtr 3 true t15 (.sc (.int .i64 32)) fun t16=>
a_ W R N E P x1 x6 x7 x9 ap t16 h
def bj:N4:=fun W R N E P x1 x6 x7 x9 h=>
ag (some 2) x1 fun t17=>
ai (some false) (some 1) t17 h fun t18 _=>
bM (some (7,none)) t18 x9 fun t20=>
ai (some true) (some 7) t20 h fun t21 _=>
aC Pg W 12 [t21,x6] h (fun t23 vB=>
bn W R N E P x1 x6 x7 x9 t23 vB) P
def aZ:N5:=fun W R N E P x1 x6 x7 x9 D3 h=>
aE D3 (
bj W R N E P x1 x6 x7 x9 h) (
E 2 [x7] h)
def bg:N4:=fun W R N E P x1 x6 x7 x9 h=>
ag (some 2) x1 fun t25=>
ai (some false) (some 1) t25 h fun t26 _=>
(aW t26=false)/\bL t26 fun t28=>
aa Pg .lss 3 false x9 t28 fun t29=>
aZ W R N E P x1 x6 x7 x9 t29 h
def cn:GK:=fun W R N E P N' vs h=>bg W R N' (fun(i:Nat) (vs:List AV) (h:AH)=>if i=2 then n9 W R N E P (vs.getD 0 ab) h else E i vs h) P (vs.getD 0 ab) (vs.getD 1 ab) (vs.getD 2 ab) (vs.getD 3 ab) h
def bu:N4:=fun W R N E P x1 x6 x7 x9 h=>
da (cn W R N E P) [x1,x6,x7,x9] h
def bz:N3:=fun W R N E P x1 x6 x7 h=>
bu W R N E P x1 x6 x7 (.sc (.int .i64 0)) h
def bC:N4:=fun _ _ N _ _ x1 x6 x7 x8 h=>
aa Pg .add 3 true x8 (.sc (.int .i64 1)) fun t30=>
N [x1,x6,x7,t30] h
def bE:N4:=fun W R N E P x1 x6 x7 x8 h=>
bM (some (3,none)) x6 x8 fun t31=>
ag (some 0) t31 fun t32=>
ai (some false) (some 1) t32 h fun t33 _=>
bM (some (3,none)) x6 x8 fun t35=>
ag (some 2) t35 fun t36=>
ai (some false) (some 1) t36 h fun t37 _=>
ck (some ([.string ⟨#[]⟩,.string ⟨#[]⟩,.slice none 0 0,.int .i64 0,.int .i64 0,.int .i64 0],.inl [(0,1),(1,1),(2,1),(3,1),(4,1),(5,1)])) [(0,(.sc (.string ⟨#[98,105,116,115]⟩))),(1,t33),(3,t37)] fun t39=>
db (some (6,46,[.string ⟨#[]⟩,.string ⟨#[]⟩,.slice none 0 0,.int .i64 0,.int .i64 0,.int .i64 0])) 1 [(0,t39)] h fun t40 yx=>
dV (some (6,80,46)) x7 t40 yx W fun t42 Ht=>
bC W R N E P x1 x6 t42 x8 Ht
def bG:N5:=fun W R N E P x1 x6 x7 x8 kR h=>
aE kR (
bE W R N E P x1 x6 x7 x8 h) (
E 0 [x1,x6,x7] h)
def bD:N4:=fun W R N E P x1 x6 x7 x8 h=>
(aW x6=false)/\bL x6 fun t44=>
aa Pg .lss 3 false x8 t44 fun t45=>
bG W R N E P x1 x6 x7 x8 t45 h
def fI:GK:=fun W R N E P N' vs h=>bD W R N' (fun(i:Nat) (vs:List AV) (h:AH)=>if i=0 then bz W R N E P (vs.getD 0 ab) (vs.getD 1 ab) (vs.getD 2 ab) h else E i vs h) P (vs.getD 0 ab) (vs.getD 1 ab) (vs.getD 2 ab) (vs.getD 3 ab) h
def bZ:N4:=fun W R N E P x1 x6 x7 x8 h=>
da (fI W R N E P) [x1,x6,x7,x8] h
def bY:N3:=fun W R N E P x1 x6 x7 h=>
bZ W R N E P x1 x6 x7 (.sc (.int .i64 0)) h
def bT:N4:=fun W R N E P x1 x6 x7 lV h=>
aE lV (
ag (some 0) x1 fun t46=>
ai (some false) (some 1) t46 h fun t47 _=>
ck (some ([.string ⟨#[]⟩,.string ⟨#[]⟩,.slice none 0 0,.int .i64 0,.int .i64 0,.int .i64 0],.inl [(0,1),(1,1),(2,1),(3,1),(4,1),(5,1)])) [(0,(.sc (.string ⟨#[113,117,98,105,116,115]⟩))),(1,(.sc (.string ⟨#[113]⟩))),(3,t47)] fun t49=>
db (some (6,46,[.string ⟨#[]⟩,.string ⟨#[]⟩,.slice none 0 0,.int .i64 0,.int .i64 0,.int .i64 0])) 1 [(0,t49)] h fun t50 yw=>
dV (some (6,80,46)) x7 t50 yw W fun t52 sO=>
bY W R N E P x1 x6 t52 sO) (
bY W R N E P x1 x6 x7 h)
def bW:N3:=fun W R N E P x1 x6 x7 h=>
ag (some 0) x1 fun t54=>
ai (some false) (some 1) t54 h fun t55 _=>
aa Pg .gtr 3 true t55 (.sc (.int .i64 0)) fun t57=>
bT W R N E P x1 x6 x7 t57 h
def cj:N2:=fun W R N E P x1 x6 h=>
bW W R N E P x1 x6 (.sc (.slice none 0 0)) h
def cq:N1:=fun W R N E P x1 h=>
ai (some true) (some 3) x1 h fun t58 _=>
aC Pg W 11 [t58] h (fun t60 Fo=>
cj W R N E P x1 t60 Fo) P
def cN:N1:=fun _ R _ _ _ x5 h=>
R [(.sc (.string ⟨#[]⟩)),x5] h
def cV:N3:=fun W R N E P x1 x5 ol h=>
aE ol (
cN W R N E P x5 h) (
cq W R N E P x1 h)
def cX:N2:=fun W R N E P x1 x5 h=>
aa Pg .neq 3 true x5 (.sc (.int .i64 0)) fun t62=>
cV W R N E P x1 x5 t62 h
def dH:N1:=fun W R N E P x1 h=>
ai (some true) (some 3) x1 h fun t63 _=>
aC Pg W 10 [t63] h (fun t65 Fk=>
cl t65 0 fun t67=>
cl t65 1 fun t68=>
cX W R N E P x1 t68 Fk) P
def eh:N1:=fun W R N E P x0 h=>
dF 3 24 x0 h fun t69 wL=>
dH W R N E P t69 wL
theorem aI{x0:AV}{h:AH}{M:WK}{R:RK}(hp:eh (fun id=>M id\/h.next<=id) (aH Pg [.tmp 2,.tmp 3] R) (aH Pg [.tmp 2,.tmp 3] R) (fun _ _ _=>False) (fun v h=>R (.bV v) h) x0 h):ay Pg 6 [x0] h M R:=
 fin (n:=91) (pl:=[(11,⟨[(none,(fr 0 15))],false,[],[]⟩),(20,⟨[(none,(fr 0 3)),(some (2,false),(fr 3 3)),(some (5,true),(fr 6 3)),(some (2,false),(fr 9 1)),(none,(fr 10 1))],false,[],[]⟩)]) (rs:=[.tmp 2,.tmp 3]) (L:=rs) (fun c=>(a1 eh 0 c)) Tryz.mixed Tryz.func6 (fun c=>
(sq (a1 eh 0 c)
(sq (a1 dH 1 c)
(sn
(sq (a1 cq 1 c)
(sq (a2 cj 1 6 c)
(sn
(sn
(sn
(sq (a1 n9 7 c)
(sn
(sl (a2 n1 11 12 c))
(sn
(cd (a3 n3 11 12 88 c) (sl (a0 n2 c)) tr)
(gr (gn (a2 n8 11 12 c) (gx (a3 n7 11 12 80 c) (gx (a4 n6 11 12 80 83 c) (gx (a5 n5 11 12 80 83 86 c) (gl (a4 n4 11 12 80 87 c))))))))))
(sq (a3 bz 1 6 7 c)
(bk 2 (lp [1,6,7,9] rs [(2,[7])] (a4 bu 1 6 7 9 c) cn (fun i vs h=>if i=2 then n9 c.W c.R c.N c.E c.P (vs.getD 0 ab) h else c.E i vs h) (.b (.t .o)) fun c=>
(sn
(sn
(sm (a4 aP 1 6 7 9 c))
(bk 3 (sq (a4 bj 1 6 7 9 c)
(sn
(sm (a5 aU 1 6 7 9 10 c))
(sq (a5 bn 1 6 7 9 10 c)
(cd (a6 a_ 1 6 7 9 10 69 c) (sl (a0 aQ c)) tr))))))
(sq (a4 bg 1 6 7 9 c)
(cd (a5 aZ 1 6 7 9 56 c) tr tr)))))))
(sq (a3 bY 1 6 7 c)
(bk 0 (lp [1,6,7,8] rs [(0,[1,6,7])] (a4 bZ 1 6 7 8 c) fI (fun i vs h=>if i=0 then bz c.W c.R c.N c.E c.P (vs.getD 0 ab) (vs.getD 1 ab) (vs.getD 2 ab) h else c.E i vs h) (.b (.t .o)) fun c=>
(sn
(sn
(sm (a4 bC 1 6 7 8 c))
(bk 1 (sm (a4 bE 1 6 7 8 c))))
(sq (a4 bD 1 6 7 8 c)
(cd (a5 bG 1 6 7 8 35 c) tr tr)))))))
(sq (a3 bW 1 6 7 c)
(cd (a4 bT 1 6 7 25 c) tr tr)))))
(sq (a2 cX 1 5 c)
(cd (a3 cV 1 5 19 c) (sl (a1 cN 5 c)) tr)))))) hp
attribute [simp] n1 n2 n3 n4 n5 n6 n7 n8 n9 aP aU aQ a_ bn bj aZ bg bz bC bE bG bD bY bT bW cj cq cN cV cX dH eh
end F6
namespace F7
abbrev rs:List Nat:=[2,3]
def n1:N1:=fun W R _ _ P x6 h=>
aC Pg W 18 [x6] h (fun t1 h2=>
cl t1 0 fun t3=>
cl t1 1 fun t4=>
R [t3,t4] h2) P
def n2:N5:=fun _ _ N _ _ x6 x7 cL c7 cA h=>
aa Pg .add 3 true cA (.sc (.int .i64 1)) fun t5=>
N [x6,x7,cL,c7,t5] h
def n3:N7:=fun W R N E P x6 x7 aA aS cL c7 cA h=>
∃Hd:Nat->Nat,(∀i∈[3],h.obj (Hd i)≠none)/\(
ai (some true) (some 7) aA h fun t6 i7=>
(i7=Hd 3)/\(
dV (some (6,80,46)) x6 aS h (kL W Hd [3]) fun t8 h9=>
aC Pg sB 17 [t6,x7] h9 (fun t10 mq=>
db (some (6,46,[.string ⟨#[]⟩,.string ⟨#[]⟩,.slice none 0 0,.int .i64 0,.int .i64 0,.int .i64 0])) 1 [(0,t10)] mq fun t12 wO=>
dV (some (6,80,46)) t8 t12 wO W fun t14 vD=>
n2 W R N E P t14 x7 cL c7 cA vD) P))
def n4:N9:=fun _ _ N _ _ x6 x7 aA aS cL c7 cA u_ fK h=>
aa Pg .add 3 true fK (.sc (.int .i64 1)) fun t16=>
N [x6,x7,aA,aS,cL,c7,cA,u_,t16] h
def n5:ua:=fun W R N E P x6 x7 aA aS cR cL c7 cA u_ fK h=>
(aW aS=false)/\bL aS fun t17=>
aa Pg .sub 3 false t17 cR fun t18=>
bM (some (6,none)) aS cR fun t19=>
ag (some 4) t19 fun t20=>
aG (some 1) t20 t18 h W fun sR=>
n4 W R N E P x6 x7 aA aS cL c7 cA u_ fK sR
def n6:N9:=fun W R N E P x6 x7 aA aS cL c7 cA u_ fK h=>
n5 W R N E P x6 x7 aA aS fK cL c7 cA u_ fK h
def n7:ua:=fun W R N E P x6 x7 aA aS cL c7 cA u_ fK gP h=>
aE gP (
n6 W R N E P x6 x7 aA aS cL c7 cA u_ fK h) (
E 6 [x6,x7,aA,aS,cL,c7,cA] h)
def n8:N9:=fun W R N E P x6 x7 aA aS cL c7 cA u_ fK h=>
aa Pg .lss 3 false fK u_ fun t22=>
n7 W R N E P x6 x7 aA aS cL c7 cA u_ fK t22 h
def fI:GK:=fun W R N E P N' vs h=>n8 W R N' (fun(i:Nat) (vs:List AV) (h:AH)=>if i=6 then n3 W R N E P (vs.getD 0 ab) (vs.getD 1 ab) (vs.getD 2 ab) (vs.getD 3 ab) (vs.getD 4 ab) (vs.getD 5 ab) (vs.getD 6 ab) h else if i=3 then n2 W R N E P (vs.getD 0 ab) (vs.getD 1 ab) (vs.getD 2 ab) (vs.getD 3 ab) (vs.getD 4 ab) h else E i vs h) P (vs.getD 0 ab) (vs.getD 1 ab) (vs.getD 2 ab) (vs.getD 3 ab) (vs.getD 4 ab) (vs.getD 5 ab) (vs.getD 6 ab) (vs.getD 7 ab) (vs.getD 8 ab) h
def n9:N9:=fun W R N E P x6 x7 aA aS cL c7 cA u_ fK h=>
da (fI W R N E P) [x6,x7,aA,aS,cL,c7,cA,u_,fK] h
def aP:N7:=fun W R N E P x6 x7 aA aS cL c7 cA h=>
(aW aS=false)/\bL aS fun t23=>
n9 W R N E P x6 x7 aA aS cL c7 cA t23 (.sc (.int .i64 0)) h
def aU:N0:=fun _ R _ _ _ h=>
R [(.sc (.string ⟨#[]⟩)),(.sc (.int .i64 102))] h
def aQ:N8:=fun W R N E P x6 x7 aA aS cL c7 cA SA h=>
aE SA (
aU W R N E P h) (
aP W R N E P x6 x7 aA aS cL c7 cA h)
def a_:N7:=fun W R N E P x6 x7 aA aS cL c7 cA h=>
(aW aS=false)/\bL aS fun t24=>
aa Pg .gtr 3 true t24 (.sc (.int .i64 32)) fun t25=>
aQ W R N E P x6 x7 aA aS cL c7 cA t25 h
def bn:ua:=fun _ _ N _ _ x6 x7 aA aS cL c7 cA jx iH ld h=>
aa Pg .add 3 true ld (.sc (.int .i64 1)) fun t26=>
N [x6,x7,aA,aS,cL,c7,cA,jx,iH,t26] h
def bj:HP:=fun W R N E P x6 x7 aA aS bc dn cL c7 cA jx iH ld h=>
aC Pg W 16 [bc] h (fun t27 vy=>
l8 (some .i64) dn fun t29=>
ck (some ([.string ⟨#[]⟩,.string ⟨#[]⟩,.slice none 0 0,.int .i64 0,.int .i64 0,.int .i64 0],.inl [(0,1),(1,1),(2,1),(3,1),(4,1),(5,1)])) [(0,(.sc (.string ⟨#[105,102]⟩))),(1,t27),(3,t29)] fun t30=>
db (some (6,46,[.string ⟨#[]⟩,.string ⟨#[]⟩,.slice none 0 0,.int .i64 0,.int .i64 0,.int .i64 0])) 1 [(0,t30)] vy fun t31 qi=>
dV (some (6,80,46)) aS t31 qi W fun t33 yD=>
bn W R N E P x6 x7 aA t33 cL c7 cA jx iH ld yD) P
def aZ:HP:=fun W R N E P x6 x7 aA aS bc cg cL c7 cA jx iH ld h=>
ag (some 6) aA fun t35=>
ai (some false) (some 1) t35 h fun t36 _=>
ag (some 0) cg fun t38=>
ai (some false) (some 1) t38 h fun t39 _=>
aa Pg .shr 36 false t36 t39 fun t41=>
ag (some 1) cg fun t42=>
ai (some false) (some 1) t42 h fun t43 _=>
aa Pg .shl 36 true (.sc (.int .u64 1)) t43 fun t45=>
aa Pg .sub 36 true t45 (.sc (.int .u64 1)) fun t46=>
aa Pg .and 36 false t41 t46 fun t47=>
bj W R N E P x6 x7 aA aS bc t47 cL c7 cA jx iH ld h
def bg:YX:=fun W R N E P x6 x7 aA aS bc cg cL c7 cA jx iH ld Af h=>
aE Af (
aZ W R N E P x6 x7 aA aS bc cg cL c7 cA jx iH ld h) (
bn W R N E P x6 x7 aA aS cL c7 cA jx iH ld h)
def bu:HP:=fun W R N E P x6 x7 aA aS bc cg cL c7 cA jx iH ld h=>
ag (some 5) aA fun t48=>
ai (some false) (some 1) t48 h fun t49 _=>
ag (some 0) cg fun t51=>
ai (some false) (some 1) t51 h fun t52 _=>
aa Pg .shr 36 false t49 t52 fun t54=>
aa Pg .and 36 true t54 (.sc (.int .u64 1)) fun t55=>
aa Pg .eql 36 true t55 (.sc (.int .u64 1)) fun t56=>
bg W R N E P x6 x7 aA aS bc cg cL c7 cA jx iH ld t56 h
def bz:ua:=fun W R N E P x6 x7 aA aS cL c7 cA jx iH ld h=>
bM (some (2,none)) jx ld fun t57=>
ai (some true) (some 2) t57 h fun t58 _=>
bH (some [.int .i64 0,.int .i64 0]) 2 56 h fun t60 Fo=>
aG (some 2) t60 t58 Fo W fun wM=>
bu W R N E P x6 x7 aA aS ld t60 cL c7 cA jx iH ld wM
def bC:Gh:=fun W R N E P x6 x7 aA aS cL c7 cA jx iH ld pT h=>
aE pT (
bz W R N E P x6 x7 aA aS cL c7 cA jx iH ld h) (
E 4 [x6,x7,aA,aS,cL,c7,cA] h)
def bE:ua:=fun W R N E P x6 x7 aA aS cL c7 cA jx iH ld h=>
aa Pg .lss 3 false ld iH fun t63=>
bC W R N E P x6 x7 aA aS cL c7 cA jx iH ld t63 h
def rY:GK:=fun W R N E P N' vs h=>bE W R N' (fun(i:Nat) (vs:List AV) (h:AH)=>if i=4 then a_ W R N E P (vs.getD 0 ab) (vs.getD 1 ab) (vs.getD 2 ab) (vs.getD 3 ab) (vs.getD 4 ab) (vs.getD 5 ab) (vs.getD 6 ab) h else if i=3 then n2 W R N E P (vs.getD 0 ab) (vs.getD 1 ab) (vs.getD 2 ab) (vs.getD 3 ab) (vs.getD 4 ab) h else E i vs h) P (vs.getD 0 ab) (vs.getD 1 ab) (vs.getD 2 ab) (vs.getD 3 ab) (vs.getD 4 ab) (vs.getD 5 ab) (vs.getD 6 ab) (vs.getD 7 ab) (vs.getD 8 ab) (vs.getD 9 ab) h
def bG:ua:=fun W R N E P x6 x7 aA aS cL c7 cA jx iH ld h=>
da (rY W R N E P) [x6,x7,aA,aS,cL,c7,cA,jx,iH,ld] h
def bD:N7:=fun W R N E P x6 x7 aA aS cL c7 cA h=>
(aW x7=false)/\bL x7 fun t64=>
bG W R N E P x6 x7 aA aS cL c7 cA x7 t64 (.sc (.int .i64 0)) h
def bZ:N6:=fun W R N E P x6 x7 aA cL c7 cA h=>
bD W R N E P x6 x7 aA (.sc (.slice none 0 0)) cL c7 cA h
def bY:N5:=fun W R N E P x6 x7 cL c7 cA h=>
bM (some (7,none)) cL cA fun t65=>
ai (some true) (some 7) t65 h fun t66 _=>
bH (some [.int .i64 0,.string ⟨#[]⟩,.slice none 0 0,.int .i64 0,.bool false,.int .u64 0,.int .u64 0]) 7 38 h fun t68 Lk=>
aG (some 7) t68 t66 Lk W fun wL=>
bZ W R N E P x6 x7 t68 cL c7 cA wL
def bT:N6:=fun W R N E P x6 x7 cL c7 cA D3 h=>
aE D3 (
bY W R N E P x6 x7 cL c7 cA h) (
E 2 [x6] h)
def bW:N5:=fun W R N E P x6 x7 cL c7 cA h=>
aa Pg .lss 3 false cA c7 fun t71=>
bT W R N E P x6 x7 cL c7 cA t71 h
def cn:GK:=fun W R N E P N' vs h=>bW W R N' (fun(i:Nat) (vs:List AV) (h:AH)=>if i=2 then n1 W R N E P (vs.getD 0 ab) h else E i vs h) P (vs.getD 0 ab) (vs.getD 1 ab) (vs.getD 2 ab) (vs.getD 3 ab) (vs.getD 4 ab) h
def cj:N5:=fun W R N E P x6 x7 cL c7 cA h=>
da (cn W R N E P) [x6,x7,cL,c7,cA] h
def cq:N3:=fun W R N E P x1 x6 x7 h=>
ag (some 2) x1 fun t72=>
ai (some false) (some 1) t72 h fun t73 _=>
(aW t73=false)/\bL t73 fun t75=>
cj W R N E P x6 x7 t73 t75 (.sc (.int .i64 0)) h
def cN:N6:=fun _ _ N _ _ x1 x6 x7 fD eL eK h=>
aa Pg .add 3 true eK (.sc (.int .i64 1)) fun t76=>
N [x1,x6,x7,fD,eL,t76] h
def cV:N8:=fun W R N E P x1 x6 x7 x8 x9 fD eL eK h=>
ag (some 1) x9 fun t77=>
ai (some false) (some 1) t77 h fun t78 _=>
aC Pg sB 16 [x8] h (fun t80 UU=>
ck (some ([.string ⟨#[]⟩,.string ⟨#[]⟩,.slice none 0 0,.int .i64 0,.int .i64 0,.int .i64 0],.inl [(0,1),(1,1),(2,1),(3,1),(4,1),(5,1)])) [(0,(.sc (.string ⟨#[98,105,116,115]⟩))),(1,t80),(3,t78)] fun t82=>
db (some (6,46,[.string ⟨#[]⟩,.string ⟨#[]⟩,.slice none 0 0,.int .i64 0,.int .i64 0,.int .i64 0])) 1 [(0,t82)] UU fun t83 Bg=>
dV (some (6,80,46)) x6 t83 Bg W fun t85 Fg=>
cN W R N E P x1 t85 x7 fD eL eK Fg) P
def cX:N6:=fun W R N E P x1 x6 x7 fD eL eK h=>
bM (some (2,none)) fD eK fun t87=>
ai (some true) (some 2) t87 h fun t88 _=>
bH (some [.int .i64 0,.int .i64 0]) 2 56 h fun t90 UR=>
aG (some 2) t90 t88 UR W fun Lf=>
cV W R N E P x1 x6 x7 eK t90 fD eL eK Lf
def dH:N7:=fun W R N E P x1 x6 x7 fD eL eK gE h=>
aE gE (
cX W R N E P x1 x6 x7 fD eL eK h) (
E 0 [x1,x6,x7] h)
def eh:N6:=fun W R N E P x1 x6 x7 fD eL eK h=>
aa Pg .lss 3 false eK eL fun t93=>
dH W R N E P x1 x6 x7 fD eL eK t93 h
def U3:GK:=fun W R N E P N' vs h=>eh W R N' (fun(i:Nat) (vs:List AV) (h:AH)=>if i=0 then cq W R N E P (vs.getD 0 ab) (vs.getD 1 ab) (vs.getD 2 ab) h else E i vs h) P (vs.getD 0 ab) (vs.getD 1 ab) (vs.getD 2 ab) (vs.getD 3 ab) (vs.getD 4 ab) (vs.getD 5 ab) h
def ft:N6:=fun W R N E P x1 x6 x7 fD eL eK h=>
da (U3 W R N E P) [x1,x6,x7,fD,eL,eK] h
def fc:N3:=fun W R N E P x1 x6 x7 h=>
(aW x7=false)/\bL x7 fun t94=>
ft W R N E P x1 x6 x7 x7 t94 (.sc (.int .i64 0)) h
def fQ:N2:=fun W R N E P x1 x6 h=>
ai (some true) (some 3) x1 h fun t95 _=>
aC Pg W 15 [t95] h (fun t97 Le=>
fc W R N E P x1 x6 t97 Le) P
def fM:N3:=fun W R N E P x1 x6 gS h=>
aE gS (
ag (some 0) x1 fun t99=>
ai (some false) (some 1) t99 h fun t100 _=>
ck (some ([.string ⟨#[]⟩,.string ⟨#[]⟩,.slice none 0 0,.int .i64 0,.int .i64 0,.int .i64 0],.inl [(0,1),(1,1),(2,1),(3,1),(4,1),(5,1)])) [(0,(.sc (.string ⟨#[113,117,98,105,116,115]⟩))),(1,(.sc (.string ⟨#[113]⟩))),(3,t100)] fun t102=>
db (some (6,46,[.string ⟨#[]⟩,.string ⟨#[]⟩,.slice none 0 0,.int .i64 0,.int .i64 0,.int .i64 0])) 1 [(0,t102)] h fun t103 Ft=>
dV (some (6,80,46)) x6 t103 Ft W fun t105 Fs=>
fQ W R N E P x1 t105 Fs) (
fQ W R N E P x1 x6 h)
def gh:N2:=fun W R N E P x1 x6 h=>
ag (some 0) x1 fun t107=>
ai (some false) (some 1) t107 h fun t108 _=>
aa Pg .gtr 3 true t108 (.sc (.int .i64 0)) fun t110=>
fM W R N E P x1 x6 t110 h
def fq:N1:=fun W R N E P x1 h=>
gh W R N E P x1 (.sc (.slice none 0 0)) h
def fp:N1:=fun _ R _ _ _ x5 h=>
R [(.sc (.string ⟨#[]⟩)),x5] h
def gg:N3:=fun W R N E P x1 x5 jQ h=>
aE jQ (
fp W R N E P x5 h) (
fq W R N E P x1 h)
def gI:N2:=fun W R N E P x1 x5 h=>
aa Pg .neq 28 true x5 (.sc (.int .i64 0)) fun t111=>
gg W R N E P x1 x5 t111 h
def gv:N1:=fun W R N E P x1 h=>
ai (some true) (some 3) x1 h fun t112 _=>
aC Pg W 14 [t112] h (fun t114 abo=>
cl t114 0 fun t116=>
cl t114 1 fun t117=>
gI W R N E P x1 t117 abo) P
def iQ:N1:=fun W R N E P x0 h=>
dF 3 24 x0 h fun t118 Nq=>
gv W R N E P t118 Nq
theorem aI{x0:AV}{h:AH}{M:WK}{R:RK}(hp:iQ (fun id=>M id\/h.next<=id) (aH Pg [.tmp 2,.tmp 3] R) (aH Pg [.tmp 2,.tmp 3] R) (fun _ _ _=>False) (fun v h=>R (.bV v) h) x0 h):ay Pg 7 [x0] h M R:=
 fin (n:=122) (pl:=[(11,⟨[(none,[(0,false),(1,false),(3,false),(4,false),(2,false),(5,false),(6,false),(7,false),(8,false)])],false,[],[2]⟩),(21,⟨[(none,(fr 0 11))],false,[],[]⟩),(31,⟨[(none,[(0,false),(1,false),(3,true),(4,false),(2,false),(5,false),(6,false),(7,false),(8,false)])],true,[],[5]⟩)]) (rs:=[.tmp 2,.tmp 3]) (L:=rs) (fun c=>(a1 iQ 0 c)) Tryz.mixed Tryz.func7 (fun c=>
(sq (a1 iQ 0 c)
(sn
(sq (a1 fq 1 c)
(sn
(sq (a2 fQ 1 6 c)
(sn
(sn
(sl (a1 n1 6 c))
(sq (a3 cq 1 6 7 c)
(bk 2 (lp [6,7,53,54,55] rs [(2,[6])] (a5 cj 6 7 53 54 55 c) cn (fun i vs h=>if i=2 then n1 c.W c.R c.N c.E c.P (vs.getD 0 ab) h else c.E i vs h) (.b (.t .o)) fun c=>
(sq (a5 bW 6 7 53 54 55 c)
(sn
(sn
(sm (a5 n2 6 7 53 54 55 c))
(bk 3 (sq (a5 bY 6 7 53 54 55 c)
(sq (a6 bZ 6 7 11 53 54 55 c)
(sn
(sn
(sn
(sm (a7 n3 6 7 11 12 53 54 55 c))
(sq (a7 aP 6 7 11 12 53 54 55 c)
(bk 6 (lp [6,7,11,12,53,54,55,96,97] rs [(6,[6,7,11,12,53,54,55]),(3,[6,7,53,54,55]),(2,[6])] (a9 n9 6 7 11 12 53 54 55 96 97 c) fI (fun i vs h=>if i=6 then n3 c.W c.R c.N c.E c.P (vs.getD 0 ab) (vs.getD 1 ab) (vs.getD 2 ab) (vs.getD 3 ab) (vs.getD 4 ab) (vs.getD 5 ab) (vs.getD 6 ab) h else if i=3 then n2 c.W c.R c.N c.E c.P (vs.getD 0 ab) (vs.getD 1 ab) (vs.getD 2 ab) (vs.getD 3 ab) (vs.getD 4 ab) h else c.E i vs h) (.b (.t (.b (.t .o)))) fun c=>
(sq (a9 n8 6 7 11 12 53 54 55 96 97 c)
(sn
(sn
(sm (a9 n4 6 7 11 12 53 54 55 96 97 c))
(bk 7 (sq (a9 n6 6 7 11 12 53 54 55 96 97 c)
(sm (te n5 6 7 11 12 16 53 54 55 96 97 c)))))
(cd (te n7 6 7 11 12 53 54 55 96 97 98 c) tr tr)))))))
(sq (a7 a_ 6 7 11 12 53 54 55 c)
(cd (a8 aQ 6 7 11 12 53 54 55 94 c) (sl (a0 aU c)) tr)))
(sq (a7 bD 6 7 11 12 53 54 55 c)
(bk 4 (lp [6,7,11,12,53,54,55,59,60,61] rs [(4,[6,7,11,12,53,54,55]),(3,[6,7,53,54,55]),(2,[6])] (te bG 6 7 11 12 53 54 55 59 60 61 c) rY (fun i vs h=>if i=4 then a_ c.W c.R c.N c.E c.P (vs.getD 0 ab) (vs.getD 1 ab) (vs.getD 2 ab) (vs.getD 3 ab) (vs.getD 4 ab) (vs.getD 5 ab) (vs.getD 6 ab) h else if i=3 then n2 c.W c.R c.N c.E c.P (vs.getD 0 ab) (vs.getD 1 ab) (vs.getD 2 ab) (vs.getD 3 ab) (vs.getD 4 ab) h else c.E i vs h) (.b (.t (.b (.t .o)))) fun c=>
(sq (te bE 6 7 11 12 53 54 55 59 60 61 c)
(sn
(sn
(sm (te bn 6 7 11 12 53 54 55 59 60 61 c))
(bk 5 (sq (te bz 6 7 11 12 53 54 55 59 60 61 c)
(sq (a12 bu 6 7 11 12 13 14 53 54 55 59 60 61 c)
(cd (a13 bg 6 7 11 12 13 14 53 54 55 59 60 61 72 c) (sq (a12 aZ 6 7 11 12 13 14 53 54 55 59 60 61 c)
(sm (a12 bj 6 7 11 12 13 15 53 54 55 59 60 61 c))) tr)))))
(cd (DE bC 6 7 11 12 53 54 55 59 60 61 62 c) tr tr)))))))))))
(cd (a6 bT 6 7 53 54 55 56 c) tr tr)))))))
(sq (a3 fc 1 6 7 c)
(bk 0 (lp [1,6,7,36,37,38] rs [(0,[1,6,7])] (a6 ft 1 6 7 36 37 38 c) U3 (fun i vs h=>if i=0 then cq c.W c.R c.N c.E c.P (vs.getD 0 ab) (vs.getD 1 ab) (vs.getD 2 ab) h else c.E i vs h) (.b (.t .o)) fun c=>
(sq (a6 eh 1 6 7 36 37 38 c)
(sn
(sn
(sm (a6 cN 1 6 7 36 37 38 c))
(bk 1 (sq (a6 cX 1 6 7 36 37 38 c)
(gr (gl (a8 cV 1 6 7 8 9 36 37 38 c))))))
(cd (a7 dH 1 6 7 36 37 38 39 c) tr tr))))))))
(sq (a2 gh 1 6 c)
(cd (a3 fM 1 6 27 c) tr tr))))
(sq (a1 gv 1 c)
(sq (a2 gI 1 5 c)
(cd (a3 gg 1 5 23 c) (sl (a1 fp 5 c)) tr)))))) hp
attribute [simp] n1 n2 n3 n4 n5 n6 n7 n8 aP aU aQ a_ bn bj aZ bg bu bz bC bE bD bZ bY bT bW cq cN cV cX dH eh fc fQ fM gh fq fp gg gI gv iQ
end F7
namespace f_
abbrev rs:List Nat:=[2]
def n1:N1:=fun _ R _ _ _ x3 h=>
R [x3] h
def n2:N3:=fun _ _ N _ _ x1 x3 x4 h=>
aa Pg .add 3 true x4 (.sc (.int .i64 1)) fun t1=>
N [x1,x3,t1] h
def n3:N3:=fun W R N E P x1 x3 x4 h=>
(aW x3=false)/\bL x3 fun t2=>
aa Pg .sub 3 true t2 (.sc (.int .i64 1)) fun t3=>
bM (some (3,none)) x3 t3 fun t4=>
ag (some 2) t4 fun t5=>
ai (some false) (some 1) t5 h fun t6 _=>
aa Pg .add 3 true t6 (.sc (.int .i64 1)) fun t8=>
bM (some (3,none)) x3 t3 fun t9=>
ag (some 2) t9 fun t10=>
aG (some 1) t10 t8 h W fun mq=>
n2 W R N E P x1 x3 x4 mq
def n4:N4:=fun W R N E P x1 x3 x4 kQ h=>
aE kQ (
(aW x3=false)/\bL x3 fun t12=>
aC Pg W 24 [t12] h (fun t13 sU=>
aa Pg .add 9 true (.sc (.string ⟨#[99]⟩)) t13 fun t15=>
ck (some ([.string ⟨#[]⟩,.int .i64 0,.int .i64 0],.inl [(0,1),(1,1),(2,1)])) [(0,t15),(1,x4)] fun t16=>
db (some (3,48,[.string ⟨#[]⟩,.int .i64 0,.int .i64 0])) 1 [(0,t16)] sU fun t17 sS=>
dV (some (3,32,48)) x3 t17 sS W fun t19 qM=>
n3 W R N E P x1 t19 x4 qM) P) (
n3 W R N E P x1 x3 x4 h)
def n5:N4:=fun W R N E P x1 x3 x4 x5 h=>
n4 W R N E P x1 x3 x4 x5 h
def n6:N5:=fun _ _ N _ _ x1 x3 x4 x5 x6 h=>
aa Pg .add 3 true x6 (.sc (.int .i64 1)) fun t21=>
N [x1,x3,x4,x5,t21] h
def n7:N6:=fun W R N E P x1 x3 x4 x6 gR lf h=>
aJ gR (.sc (.bool true)) lf fun t22=>
n6 W R N E P x1 x3 x4 t22 x6 h
def n8:N6:=fun W R N E P x1 x3 x4 x6 x7 gR h=>
bd false gR (
aa Pg .shr 36 false x7 x4 fun t23=>
aa Pg .and 36 true t23 (.sc (.int .u64 1)) fun t24=>
aa Pg .sub 3 true x4 (.sc (.int .i64 1)) fun t25=>
aa Pg .shr 36 false x7 t25 fun t26=>
aa Pg .and 36 true t26 (.sc (.int .u64 1)) fun t27=>
aa Pg .neq 36 false t24 t27 fun t28=>
n7 W R N E P x1 x3 x4 x6 gR t28 h) (
n7 W R N E P x1 x3 x4 x6 gR ab h)
def n9:N6:=fun W R N E P x1 x3 x4 x5 x6 x7 h=>
n8 W R N E P x1 x3 x4 x6 x7 x5 h
def aP:N5:=fun W R N E P x1 x3 x4 x5 x6 h=>
ag (some 2) x1 fun t29=>
ai (some false) (some 1) t29 h fun t30 _=>
bM (some (7,none)) t30 x6 fun t32=>
ag (some 5) t32 fun t33=>
ai (some false) (some 1) t33 h fun t34 _=>
n9 W R N E P x1 x3 x4 x5 x6 t34 h
def aU:N6:=fun W R N E P x1 x3 x4 x5 x6 vI h=>
aE vI (
aP W R N E P x1 x3 x4 x5 x6 h) (
E 2 [x1,x3,x4,x5] h)
def aQ:N5:=fun W R N E P x1 x3 x4 x5 x6 h=>
ag (some 2) x1 fun t36=>
ai (some false) (some 1) t36 h fun t37 _=>
(aW t37=false)/\bL t37 fun t39=>
aa Pg .lss 3 false x6 t39 fun t40=>
aU W R N E P x1 x3 x4 x5 x6 t40 h
def fI:GK:=fun W R N E P N' vs h=>aQ W R N' (fun(i:Nat) (vs:List AV) (h:AH)=>if i=2 then n5 W R N E P (vs.getD 0 ab) (vs.getD 1 ab) (vs.getD 2 ab) (vs.getD 3 ab) h else if i=1 then n2 W R N E P (vs.getD 0 ab) (vs.getD 1 ab) (vs.getD 2 ab) h else E i vs h) P (vs.getD 0 ab) (vs.getD 1 ab) (vs.getD 2 ab) (vs.getD 3 ab) (vs.getD 4 ab) h
def a_:N5:=fun W R N E P x1 x3 x4 x5 x6 h=>
da (fI W R N E P) [x1,x3,x4,x5,x6] h
def bn:N4:=fun W R N E P x1 x3 x4 x5 h=>
a_ W R N E P x1 x3 x4 x5 (.sc (.int .i64 0)) h
def bj:N5:=fun W R N E P x1 x3 x4 cR oP h=>
aJ cR (.sc (.bool true)) oP fun t41=>
bn W R N E P x1 x3 x4 t41 h
def aZ:N4:=fun W R N E P x1 x3 x4 cR h=>
bd false cR (
(aW x3=false)/\bL x3 fun t42=>
aa Pg .sub 3 true t42 (.sc (.int .i64 1)) fun t43=>
bM (some (3,none)) x3 t43 fun t44=>
ag (some 2) t44 fun t45=>
ai (some false) (some 1) t45 h fun t46 _=>
aa Pg .eql 3 true t46 (.sc (.int .i64 32)) fun t48=>
bj W R N E P x1 x3 x4 cR t48 h) (
bj W R N E P x1 x3 x4 cR ab h)
def bg:N3:=fun W R N E P x1 x3 x4 h=>
aa Pg .eql 3 true x4 (.sc (.int .i64 0)) fun t49=>
aZ W R N E P x1 x3 x4 t49 h
def bu:N4:=fun W R N E P x1 x3 x4 aA h=>
aE aA (
bg W R N E P x1 x3 x4 h) (
E 0 [x3] h)
def bz:N3:=fun W R N E P x1 x3 x4 h=>
ag (some 1) x1 fun t50=>
ai (some false) (some 1) t50 h fun t51 _=>
aa Pg .lss 3 false x4 t51 fun t53=>
bu W R N E P x1 x3 x4 t53 h
def cn:GK:=fun W R N E P N' vs h=>bz W R N' (fun(i:Nat) (vs:List AV) (h:AH)=>if i=0 then n1 W R N E P (vs.getD 0 ab) h else E i vs h) P (vs.getD 0 ab) (vs.getD 1 ab) (vs.getD 2 ab) h
def bC:N3:=fun W R N E P x1 x3 x4 h=>
da (cn W R N E P) [x1,x3,x4] h
def bE:N2:=fun W R N E P x1 x3 h=>
bC W R N E P x1 x3 (.sc (.int .i64 0)) h
def bG:N1:=fun W R N E P x1 h=>
bE W R N E P x1 (.sc (.slice none 0 0)) h
def bD:N1:=fun W R N E P x0 h=>
dF 3 24 x0 h fun t54 Bh=>
bG W R N E P t54 Bh
theorem aI{x0:AV}{h:AH}{M:WK}{R:RK}(hp:bD (fun id=>M id\/h.next<=id) (aH Pg [.tmp 2] R) (aH Pg [.tmp 2] R) (fun _ _ _=>False) (fun v h=>R (.bV v) h) x0 h):ay Pg 11 [x0] h M R:=
 fin (n:=73) (pl:=[(5,⟨[(none,(fr 0 3)),(some (2,false),(fr 3 8)),(none,(fr 11 2))],false,[],[]⟩),(10,⟨[(none,(fr 0 2)),(some (1,false),(fr 2 10)),(none,(fr 12 2))],false,[],[]⟩)]) (rs:=[.tmp 2]) (L:=rs) (fun c=>(a1 bD 0 c)) Tryz.mixed Tryz.func11 (fun c=>
(sq (a1 bD 0 c)
(sq (a1 bG 1 c)
(sn
(sl (a1 n1 3 c))
(sq (a2 bE 1 3 c)
(bk 0 (lp [1,3,4] rs [(0,[3])] (a3 bC 1 3 4 c) cn (fun i vs h=>if i=0 then n1 c.W c.R c.N c.E c.P (vs.getD 0 ab) h else c.E i vs h) (.b (.t .o)) fun c=>
(sn
(sn
(sm (a3 n2 1 3 4 c))
(bk 1 (sn
(sn
(sn
(sm (a3 n3 1 3 4 c))
(sq (a4 n5 1 3 4 5 c)
(cd (a4 n4 1 3 4 52 c) tr tr)))
(sq (a4 bn 1 3 4 5 c)
(bk 2 (lp [1,3,4,5,6] rs [(2,[1,3,4,5]),(1,[1,3,4]),(0,[3])] (a5 a_ 1 3 4 5 6 c) fI (fun i vs h=>if i=2 then n5 c.W c.R c.N c.E c.P (vs.getD 0 ab) (vs.getD 1 ab) (vs.getD 2 ab) (vs.getD 3 ab) h else if i=1 then n2 c.W c.R c.N c.E c.P (vs.getD 0 ab) (vs.getD 1 ab) (vs.getD 2 ab) h else c.E i vs h) (.b (.t (.b (.t .o)))) fun c=>
(sn
(sn
(sm (a5 n6 1 3 4 5 6 c))
(bk 3 (sq (a5 aP 1 3 4 5 6 c)
(gr (gn (a6 n9 1 3 4 5 6 7 c) (gx (a6 n8 1 3 4 6 7 40 c) (gl (a6 n7 1 3 4 6 40 50 c))))))))
(sq (a5 aQ 1 3 4 5 6 c)
(cd (a6 aU 1 3 4 5 6 30 c) tr tr)))))))
(gr (gn (a3 bg 1 3 4 c) (gx (a4 aZ 1 3 4 16 c) (gl (a5 bj 1 3 4 16 24 c))))))))
(sq (a3 bz 1 3 4 c)
(cd (a4 bu 1 3 4 11 c) tr tr)))))))))) hp
attribute [simp] n1 n2 n3 n4 n5 n6 n7 n8 n9 aP aU aQ bn bj aZ bg bu bz bE bG bD
end f_
namespace dQ
abbrev rs:List Nat:=[4]
def n1:N2:=fun W R _ _ _ x5 x6 h=>
ai (some true) (some 6) x6 h fun t1 _=>
db (some (6,46,[.string ⟨#[]⟩,.string ⟨#[]⟩,.slice none 0 0,.int .i64 0,.int .i64 0,.int .i64 0])) 1 [(0,t1)] h fun t3 h4=>
dV (some (6,80,46)) x5 t3 h4 W fun t5 h6=>
R [t5] h6
def n2:N3:=fun _ _ N _ _ x5 x6 ap h=>
aa Pg .add 3 true ap (.sc (.int .i64 1)) fun t7=>
N [x5,x6,t7] h
def n3:N3:=fun W R N E P x5 x6 ap h=>
(aW x5=false)/\bL x5 fun t8=>
aa Pg .sub 3 false t8 ap fun t9=>
bM (some (6,none)) x5 ap fun t10=>
ag (some 4) t10 fun t11=>
aG (some 1) t11 t9 h W fun pb=>
n2 W R N E P x5 x6 ap pb
def n4:N4:=fun W R N E P x5 x6 ap Zk h=>
aE Zk (
n3 W R N E P x5 x6 ap h) (
E 4 [x5,x6] h)
def n5:N3:=fun W R N E P x5 x6 ap h=>
(aW x5=false)/\bL x5 fun t13=>
aa Pg .lss 3 false ap t13 fun t14=>
n4 W R N E P x5 x6 ap t14 h
def cn:GK:=fun W R N E P N' vs h=>n5 W R N' (fun(i:Nat) (vs:List AV) (h:AH)=>if i=4 then n1 W R N E P (vs.getD 0 ab) (vs.getD 1 ab) h else E i vs h) P (vs.getD 0 ab) (vs.getD 1 ab) (vs.getD 2 ab) h
def n6:N3:=fun W R N E P x5 x6 ap h=>
da (cn W R N E P) [x5,x6,ap] h
def n7:N2:=fun W R N E P x5 x6 h=>
n6 W R N E P x5 x6 (.sc (.int .i64 0)) h
def n8:N2:=fun W R N E P x5 x6 h=>
ag (some 1) x6 fun t15=>
aG (some 1) t15 (.sc (.string ⟨#[]⟩)) h W fun kU=>
n7 W R N E P x5 x6 kU
def n9:N2:=fun W R N E P x5 x6 h=>
ag (some 0) x6 fun t17=>
aG (some 1) t17 (.sc (.string ⟨#[114,101,115,101,116]⟩)) h W fun sS=>
n8 W R N E P x5 x6 sS
def aP:N3:=fun W R N E P x5 x6 mX h=>
aE mX (
n9 W R N E P x5 x6 h) (
n7 W R N E P x5 x6 h)
def aU:N3:=fun W R N E P x2 x5 x6 h=>
ag (some 0) x2 fun t19=>
ai (some false) (some 1) t19 h fun t20 _=>
aa Pg .eql 3 true t20 (.sc (.int .i64 3)) fun t22=>
aP W R N E P x5 x6 t22 h
def aQ:N5:=fun _ _ N _ _ x1 x2 x5 x6 x8 h=>
aa Pg .add 3 true x8 (.sc (.int .i64 1)) fun t23=>
N [x1,x2,x5,x6,t23] h
def a_:N6:=fun W R N E P x1 x2 x5 x6 x8 ti h=>
aE ti (
ag (some 2) x2 fun t24=>
ai (some false) (some 1) t24 h fun t25 _=>
bM (some (1,none)) t25 (.sc (.int .i64 0)) fun t27=>
ai (some false) (some 1) t27 h fun t28 _=>
ck (some ([.string ⟨#[]⟩,.int .i64 0],.inl [(0,1),(1,1)])) [(0,(.sc (.string ⟨#[113]⟩))),(1,t28)] fun t30=>
bM (some (3,none)) x1 x8 fun t31=>
ag (some 0) t31 fun t32=>
ai (some false) (some 1) t32 h fun t33 _=>
ag (some 3) x2 fun t35=>
ai (some false) (some 1) t35 h fun t36 _=>
bM (some (3,none)) x1 x8 fun t38=>
ag (some 1) t38 fun t39=>
ai (some false) (some 1) t39 h fun t40 _=>
aa Pg .sub 3 false t36 t40 fun t42=>
ck (some ([.string ⟨#[]⟩,.int .i64 0],.inl [(0,1),(1,1)])) [(0,t33),(1,t42)] fun t43=>
db (some (2,67,[.string ⟨#[]⟩,.int .i64 0,.string ⟨#[]⟩,.int .i64 0])) 2 [(0,t30),(1,t43)] h fun t44 vu=>
ck (some ([.string ⟨#[]⟩,.string ⟨#[]⟩,.slice none 0 0,.int .i64 0,.int .i64 0,.int .i64 0],.inl [(0,1),(1,1),(2,1),(3,1),(4,1),(5,1)])) [(0,(.sc (.string ⟨#[109,101,97,115,117,114,101]⟩))),(2,t44)] fun t46=>
aG (some 6) x6 t46 vu W fun sQ=>
aQ W R N E P x1 x2 x5 x6 x8 sQ) (
aQ W R N E P x1 x2 x5 x6 x8 h)
def bn:N7:=fun W R N E P x1 x2 x5 x6 x8 Ac Mg h=>
aJ Ac Mg (.sc (.bool false)) fun t48=>
a_ W R N E P x1 x2 x5 x6 x8 t48 h
def bj:N6:=fun W R N E P x1 x2 x5 x6 x8 Ac h=>
bd true Ac (
ag (some 3) x2 fun t49=>
ai (some false) (some 1) t49 h fun t50 _=>
bM (some (3,none)) x1 x8 fun t52=>
ag (some 1) t52 fun t53=>
ai (some false) (some 1) t53 h fun t54 _=>
bM (some (3,none)) x1 x8 fun t56=>
ag (some 2) t56 fun t57=>
ai (some false) (some 1) t57 h fun t58 _=>
aa Pg .add 3 false t54 t58 fun t60=>
aa Pg .lss 3 false t50 t60 fun t61=>
bn W R N E P x1 x2 x5 x6 x8 Ac t61 h) (
bn W R N E P x1 x2 x5 x6 x8 Ac ab h)
def aZ:N7:=fun W R N E P x1 x2 x5 x6 x8 iN SB h=>
aJ iN SB (.sc (.bool false)) fun t62=>
bj W R N E P x1 x2 x5 x6 x8 t62 h
def bg:N6:=fun W R N E P x1 x2 x5 x6 x8 iN h=>
bd true iN (
ag (some 3) x2 fun t63=>
ai (some false) (some 1) t63 h fun t64 _=>
bM (some (3,none)) x1 x8 fun t66=>
ag (some 1) t66 fun t67=>
ai (some false) (some 1) t67 h fun t68 _=>
aa Pg .geq 3 false t64 t68 fun t70=>
aZ W R N E P x1 x2 x5 x6 x8 iN t70 h) (
aZ W R N E P x1 x2 x5 x6 x8 iN ab h)
def bu:N5:=fun W R N E P x1 x2 x5 x6 x8 h=>
ag (some 0) x2 fun t71=>
ai (some false) (some 1) t71 h fun t72 _=>
aa Pg .eql 3 true t72 (.sc (.int .i64 2)) fun t74=>
bg W R N E P x1 x2 x5 x6 x8 t74 h
def bz:N6:=fun W R N E P x1 x2 x5 x6 x8 x9 h=>
bM (some (3,none)) x1 x8 fun t75=>
ag (some 0) t75 fun t76=>
ai (some false) (some 1) t76 h fun t77 _=>
l8 (some .i64) x9 fun t79=>
ck (some ([.string ⟨#[]⟩,.string ⟨#[]⟩,.slice none 0 0,.int .i64 0,.int .i64 0,.int .i64 0],.inl [(0,1),(1,1),(2,1),(3,1),(4,1),(5,1)])) [(0,(.sc (.string ⟨#[105,102]⟩))),(1,t77),(3,t79)] fun t80=>
db (some (6,46,[.string ⟨#[]⟩,.string ⟨#[]⟩,.slice none 0 0,.int .i64 0,.int .i64 0,.int .i64 0])) 1 [(0,t80)] h fun t81 Lg=>
dV (some (6,80,46)) x5 t81 Lg W fun t83 Bg=>
bu W R N E P x1 x2 t83 x6 x8 Bg
def bC:N5:=fun W R N E P x1 x2 x5 x6 x8 h=>
ag (some 6) x2 fun t85=>
ai (some false) (some 1) t85 h fun t86 _=>
bM (some (3,none)) x1 x8 fun t88=>
ag (some 1) t88 fun t89=>
ai (some false) (some 1) t89 h fun t90 _=>
aa Pg .shr 36 false t86 t90 fun t92=>
bM (some (3,none)) x1 x8 fun t93=>
ag (some 2) t93 fun t94=>
ai (some false) (some 1) t94 h fun t95 _=>
aa Pg .sub 3 true t95 (.sc (.int .i64 1)) fun t97=>
aa Pg .shl 36 true (.sc (.int .u64 1)) t97 fun t98=>
aa Pg .mul 36 true t98 (.sc (.int .u64 2)) fun t99=>
aa Pg .sub 36 true t99 (.sc (.int .u64 1)) fun t100=>
aa Pg .and 36 false t92 t100 fun t101=>
bz W R N E P x1 x2 x5 x6 x8 t101 h
def bE:N6:=fun W R N E P x1 x2 x5 x6 x8 iX h=>
aE iX (
bC W R N E P x1 x2 x5 x6 x8 h) (
bu W R N E P x1 x2 x5 x6 x8 h)
def bG:N5:=fun W R N E P x1 x2 x5 x6 x8 h=>
ag (some 5) x2 fun t102=>
ai (some false) (some 1) t102 h fun t103 _=>
bM (some (3,none)) x1 x8 fun t105=>
ag (some 1) t105 fun t106=>
ai (some false) (some 1) t106 h fun t107 _=>
aa Pg .shr 36 false t103 t107 fun t109=>
aa Pg .and 36 true t109 (.sc (.int .u64 1)) fun t110=>
aa Pg .eql 36 true t110 (.sc (.int .u64 1)) fun t111=>
bE W R N E P x1 x2 x5 x6 x8 t111 h
def bD:N6:=fun W R N E P x1 x2 x5 x6 x8 kR h=>
aE kR (
bG W R N E P x1 x2 x5 x6 x8 h) (
E 2 [x2,x5,x6] h)
def bZ:N5:=fun W R N E P x1 x2 x5 x6 x8 h=>
(aW x1=false)/\bL x1 fun t112=>
aa Pg .lss 3 false x8 t112 fun t113=>
bD W R N E P x1 x2 x5 x6 x8 t113 h
def fI:GK:=fun W R N E P N' vs h=>bZ W R N' (fun(i:Nat) (vs:List AV) (h:AH)=>if i=2 then aU W R N E P (vs.getD 0 ab) (vs.getD 1 ab) (vs.getD 2 ab) h else E i vs h) P (vs.getD 0 ab) (vs.getD 1 ab) (vs.getD 2 ab) (vs.getD 3 ab) (vs.getD 4 ab) h
def bY:N5:=fun W R N E P x1 x2 x5 x6 x8 h=>
da (fI W R N E P) [x1,x2,x5,x6,x8] h
def bT:N4:=fun W R N E P x1 x2 x5 x6 h=>
bY W R N E P x1 x2 x5 x6 (.sc (.int .i64 0)) h
def bW:N5:=fun _ _ N _ _ x1 x2 x5 x6 x7 h=>
aa Pg .add 3 true x7 (.sc (.int .i64 1)) fun t114=>
N [x1,x2,x5,x6,t114] h
def cj:N5:=fun W R N E P x1 x2 x5 x6 x7 h=>
ag (some 2) x6 fun t115=>
ai (some false) (some 1) t115 h fun t116 _=>
ag (some 2) x2 fun t118=>
ai (some false) (some 1) t118 h fun t119 _=>
bM (some (1,none)) t119 x7 fun t121=>
ai (some false) (some 1) t121 h fun t122 _=>
ck (some ([.string ⟨#[]⟩,.int .i64 0],.inl [(0,1),(1,1)])) [(0,(.sc (.string ⟨#[113]⟩))),(1,t122)] fun t124=>
db (some (2,67,[.string ⟨#[]⟩,.int .i64 0])) 1 [(0,t124)] h fun t125 abk=>
dV (some (2,24,67)) t116 t125 abk W fun t127 abi=>
ag (some 2) x6 fun t129=>
aG (some 1) t129 t127 abi W fun abh=>
bW W R N E P x1 x2 x5 x6 x7 abh
def cq:N6:=fun W R N E P x1 x2 x5 x6 x7 il h=>
aE il (
cj W R N E P x1 x2 x5 x6 x7 h) (
E 0 [x1,x2,x5,x6] h)
def cN:N5:=fun W R N E P x1 x2 x5 x6 x7 h=>
ag (some 2) x2 fun t131=>
ai (some false) (some 1) t131 h fun t132 _=>
(aW t132=false)/\bL t132 fun t134=>
aa Pg .lss 3 false x7 t134 fun t135=>
cq W R N E P x1 x2 x5 x6 x7 t135 h
def rY:GK:=fun W R N E P N' vs h=>cN W R N' (fun(i:Nat) (vs:List AV) (h:AH)=>if i=0 then bT W R N E P (vs.getD 0 ab) (vs.getD 1 ab) (vs.getD 2 ab) (vs.getD 3 ab) h else E i vs h) P (vs.getD 0 ab) (vs.getD 1 ab) (vs.getD 2 ab) (vs.getD 3 ab) (vs.getD 4 ab) h
def cV:N5:=fun W R N E P x1 x2 x5 x6 x7 h=>
da (rY W R N E P) [x1,x2,x5,x6,x7] h
def cX:N4:=fun W R N E P x1 x2 x5 x6 h=>
cV W R N E P x1 x2 x5 x6 (.sc (.int .i64 0)) h
def dH:N3:=fun W R N E P x1 x2 x5 h=>
ag (some 1) x2 fun t136=>
ai (some false) (some 1) t136 h fun t137 _=>
ck (some ([.string ⟨#[]⟩,.string ⟨#[]⟩,.slice none 0 0,.int .i64 0,.int .i64 0,.int .i64 0],.inl [(0,1),(1,1),(2,1),(3,1),(4,1),(5,1)])) [(0,(.sc (.string ⟨#[117,115,101]⟩))),(1,t137)] fun t139=>
bH (some [.string ⟨#[]⟩,.string ⟨#[]⟩,.slice none 0 0,.int .i64 0,.int .i64 0,.int .i64 0]) 6 46 h fun t140 Np=>
aG (some 6) t140 t139 Np W fun abd=>
cX W R N E P x1 x2 x5 t140 abd
def eh:N2:=fun W R N E P x1 x2 h=>
dH W R N E P x1 x2 (.sc (.slice none 0 0)) h
def ft:N2:=fun W R N E P x0 x1 h=>
dF 7 38 x0 h fun t143 abb=>
eh W R N E P x1 t143 abb
theorem aI{x0 x1:AV}{h:AH}{M:WK}{R:RK}(hp:ft (fun id=>M id\/h.next<=id) (aH Pg [.tmp 4] R) (aH Pg [.tmp 4] R) (fun _ _ _=>False) (fun v h=>R (.bV v) h) x0 x1 h):ay Pg 12 [x0,x1] h M R:=
 fin (n:=150) (pl:=[(6,⟨[(none,(fr 0 12))],false,[],[]⟩),(10,⟨[(none,(fr 0 10))],false,[],[]⟩),(11,⟨[(none,(fr 0 19))],false,[],[]⟩),(13,⟨[(none,(fr 0 4)),(some (3,true),(fr 4 8)),(none,(fr 12 2)),(some (13,true),(fr 14 14)),(none,(fr 28 1))],false,[],[]⟩),(14,⟨[(none,(fr 0 22))],false,[],[]⟩)]) (rs:=[.tmp 4]) (L:=rs) (fun c=>(a2 ft 0 1 c)) Tryz.mixed Tryz.func12 (fun c=>
(sq (a2 ft 0 1 c)
(sq (a2 eh 1 2 c)
(sq (a3 dH 1 2 5 c)
(sn
(sn
(sn
(sn
(sl (a2 n1 5 6 c))
(sq (a2 n7 5 6 c)
(bk 4 (lp [5,6,10] rs [(4,[5,6])] (a3 n6 5 6 10 c) cn (fun i vs h=>if i=4 then n1 c.W c.R c.N c.E c.P (vs.getD 0 ab) (vs.getD 1 ab) h else c.E i vs h) (.b (.t .o)) fun c=>
(sn
(sn
(sm (a3 n2 5 6 10 c))
(bk 5 (sm (a3 n3 5 6 10 c))))
(sq (a3 n5 5 6 10 c)
(cd (a4 n4 5 6 10 135 c) tr tr)))))))
(sq (a3 aU 2 5 6 c)
(cd (a3 aP 5 6 129 c) (sq (a2 n9 5 6 c)
(sm (a2 n8 5 6 c))) tr)))
(sq (a4 bT 1 2 5 6 c)
(bk 2 (lp [1,2,5,6,8] rs [(2,[2,5,6])] (a5 bY 1 2 5 6 8 c) fI (fun i vs h=>if i=2 then aU c.W c.R c.N c.E c.P (vs.getD 0 ab) (vs.getD 1 ab) (vs.getD 2 ab) h else c.E i vs h) (.b (.t .o)) fun c=>
(sn
(sn
(sm (a5 aQ 1 2 5 6 8 c))
(bk 3 (sn
(sn
(cd (a6 a_ 1 2 5 6 8 105 c) tr tr)
(gr (gn (a5 bu 1 2 5 6 8 c) (gx (a6 bg 1 2 5 6 8 80 c) (gn (a7 aZ 1 2 5 6 8 80 88 c) (gx (a6 bj 1 2 5 6 8 90 c) (gl (a7 bn 1 2 5 6 8 90 104 c))))))))
(sq (a5 bG 1 2 5 6 8 c)
(cd (a6 bE 1 2 5 6 8 47 c) (sq (a5 bC 1 2 5 6 8 c)
(sm (a6 bz 1 2 5 6 8 9 c))) tr)))))
(sq (a5 bZ 1 2 5 6 8 c)
(cd (a6 bD 1 2 5 6 8 35 c) tr tr)))))))
(sq (a4 cX 1 2 5 6 c)
(bk 0 (lp [1,2,5,6,7] rs [(0,[1,2,5,6])] (a5 cV 1 2 5 6 7 c) rY (fun i vs h=>if i=0 then bT c.W c.R c.N c.E c.P (vs.getD 0 ab) (vs.getD 1 ab) (vs.getD 2 ab) (vs.getD 3 ab) h else c.E i vs h) (.b (.t .o)) fun c=>
(sn
(sn
(sm (a5 bW 1 2 5 6 7 c))
(bk 1 (sm (a5 cj 1 2 5 6 7 c))))
(sq (a5 cN 1 2 5 6 7 c)
(cd (a6 cq 1 2 5 6 7 18 c) tr tr))))))))))) hp
attribute [simp] n1 n2 n3 n4 n5 n7 n8 n9 aP aU aQ a_ bn bj aZ bg bu bz bC bE bG bD bZ bT bW cj cq cN cX dH eh ft
end dQ
namespace fy
abbrev rs:List Nat:=[2]
def n1:N1:=fun _ R _ _ _ x3 h=>
R [x3] h
def n2:N4:=fun _ _ N _ _ x1 x3 ap aA h=>
aa Pg .add 3 true aA (.sc (.int .i64 1)) fun t1=>
N [x1,x3,ap,t1] h
def n3:N5:=fun W R N E P x1 x3 x5 ap aA h=>
bM (some (2,none)) x3 x5 fun t2=>
ag (some 1) t2 fun t3=>
ai (some false) (some 1) t3 h fun t4 _=>
aa Pg .add 3 true t4 (.sc (.int .i64 1)) fun t6=>
bM (some (2,none)) x3 x5 fun t7=>
ag (some 1) t7 fun t8=>
aG (some 1) t8 t6 h W fun h9=>
n2 W R N E P x1 x3 ap aA h9
def n4:N5:=fun W R N E P x1 x3 x4 ap aA h=>
ck (some ([.int .i64 0,.int .i64 0],.inl [(0,1),(1,1)])) [(0,x4),(1,(.sc (.int .i64 1)))] fun t10=>
db (some (2,56,[.int .i64 0,.int .i64 0])) 1 [(0,t10)] h fun t11 pb=>
dV (some (2,16,56)) x3 t11 pb W fun t13 sU=>
n2 W R N E P x1 t13 ap aA sU
def n5:N7:=fun W R N E P x1 x3 x4 x5 ap aA c7 h=>
aE c7 (
n4 W R N E P x1 x3 x4 ap aA h) (
n3 W R N E P x1 x3 x5 ap aA h)
def n6:N7:=fun W R N E P x1 x3 x4 x5 x6 ap aA h=>
n5 W R N E P x1 x3 x4 x5 ap aA x6 h
def n7:N8:=fun _ _ N _ _ x1 x3 x4 x5 x6 x7 ap aA h=>
aa Pg .add 3 true x7 (.sc (.int .i64 1)) fun t15=>
N [x1,x3,x4,x5,x6,t15,ap,aA] h
def n8:N8:=fun W R N E P x1 x3 x4 x5 x7 x8 ap aA h=>
aa Pg .shr 36 false x8 x4 fun t16=>
aa Pg .and 36 true t16 (.sc (.int .u64 1)) fun t17=>
aa Pg .sub 3 true x4 (.sc (.int .i64 1)) fun t18=>
aa Pg .shr 36 false x8 t18 fun t19=>
aa Pg .and 36 true t19 (.sc (.int .u64 1)) fun t20=>
aa Pg .neq 36 false t17 t20 fun t21=>
n7 W R N E P x1 x3 x4 x5 t21 x7 ap aA h
def n9:N7:=fun W R N E P x1 x3 x4 x5 x7 ap aA h=>
ag (some 2) x1 fun t22=>
ai (some false) (some 1) t22 h fun t23 _=>
bM (some (7,none)) t23 x7 fun t25=>
ag (some 5) t25 fun t26=>
ai (some false) (some 1) t26 h fun t27 _=>
n8 W R N E P x1 x3 x4 x5 x7 t27 ap aA h
def aP:N9:=fun W R N E P x1 x3 x4 x5 x6 x7 ap aA kR h=>
aE kR (
n9 W R N E P x1 x3 x4 x5 x7 ap aA h) (
E 2 [x1,x3,x4,x5,x6,ap,aA] h)
def aU:ua:=fun W R N E P x1 x3 x4 x5 x6 x7 ap aA eB vH h=>
aJ eB vH (.sc (.bool false)) fun t29=>
aP W R N E P x1 x3 x4 x5 x6 x7 ap aA t29 h
def aQ:N9:=fun W R N E P x1 x3 x4 x5 x6 x7 ap aA eB h=>
bd true eB (
e_ .not x6 fun t30=>
aU W R N E P x1 x3 x4 x5 x6 x7 ap aA eB t30 h) (
aU W R N E P x1 x3 x4 x5 x6 x7 ap aA eB ab h)
def a_:N8:=fun W R N E P x1 x3 x4 x5 x6 x7 ap aA h=>
ag (some 2) x1 fun t31=>
ai (some false) (some 1) t31 h fun t32 _=>
(aW t32=false)/\bL t32 fun t34=>
aa Pg .lss 3 false x7 t34 fun t35=>
aQ W R N E P x1 x3 x4 x5 x6 x7 ap aA t35 h
def fI:GK:=fun W R N E P N' vs h=>a_ W R N' (fun(i:Nat) (vs:List AV) (h:AH)=>if i=2 then n6 W R N E P (vs.getD 0 ab) (vs.getD 1 ab) (vs.getD 2 ab) (vs.getD 3 ab) (vs.getD 4 ab) (vs.getD 5 ab) (vs.getD 6 ab) h else if i=1 then n2 W R N E P (vs.getD 0 ab) (vs.getD 1 ab) (vs.getD 2 ab) (vs.getD 3 ab) h else E i vs h) P (vs.getD 0 ab) (vs.getD 1 ab) (vs.getD 2 ab) (vs.getD 3 ab) (vs.getD 4 ab) (vs.getD 5 ab) (vs.getD 6 ab) (vs.getD 7 ab) h
def bn:N8:=fun W R N E P x1 x3 x4 x5 x6 x7 ap aA h=>
da (fI W R N E P) [x1,x3,x4,x5,x6,x7,ap,aA] h
def bj:N7:=fun W R N E P x1 x3 x4 x5 x6 ap aA h=>
bn W R N E P x1 x3 x4 x5 x6 (.sc (.int .i64 0)) ap aA h
def aZ:N8:=fun W R N E P x1 x3 x4 x5 ap aA ol lV h=>
aJ ol (.sc (.bool true)) lV fun t36=>
bj W R N E P x1 x3 x4 x5 t36 ap aA h
def bg:N7:=fun W R N E P x1 x3 x4 x5 ap aA ol h=>
bd false ol (
bM (some (2,none)) x3 x5 fun t37=>
ag (some 1) t37 fun t38=>
ai (some false) (some 1) t38 h fun t39 _=>
aa Pg .eql 3 true t39 (.sc (.int .i64 32)) fun t41=>
aZ W R N E P x1 x3 x4 x5 ap aA ol t41 h) (
aZ W R N E P x1 x3 x4 x5 ap aA ol ab h)
def bu:N6:=fun W R N E P x1 x3 x4 x5 ap aA h=>
aa Pg .lss 3 true x5 (.sc (.int .i64 0)) fun t42=>
bg W R N E P x1 x3 x4 x5 ap aA t42 h
def bz:N5:=fun W R N E P x1 x3 x4 ap aA h=>
(aW x3=false)/\bL x3 fun t43=>
aa Pg .sub 3 true t43 (.sc (.int .i64 1)) fun t44=>
bu W R N E P x1 x3 x4 t44 ap aA h
def bC:N4:=fun W R N E P x1 x3 ap aA h=>
bz W R N E P x1 x3 aA ap aA h
def bE:N5:=fun W R N E P x1 x3 ap aA aS h=>
aE aS (
bC W R N E P x1 x3 ap aA h) (
E 0 [x3] h)
def bG:N4:=fun W R N E P x1 x3 ap aA h=>
aa Pg .lss 3 false aA ap fun t45=>
bE W R N E P x1 x3 ap aA t45 h
def cn:GK:=fun W R N E P N' vs h=>bG W R N' (fun(i:Nat) (vs:List AV) (h:AH)=>if i=0 then n1 W R N E P (vs.getD 0 ab) h else E i vs h) P (vs.getD 0 ab) (vs.getD 1 ab) (vs.getD 2 ab) (vs.getD 3 ab) h
def bD:N4:=fun W R N E P x1 x3 ap aA h=>
da (cn W R N E P) [x1,x3,ap,aA] h
def bZ:N2:=fun W R N E P x1 x3 h=>
ag (some 1) x1 fun t46=>
ai (some false) (some 1) t46 h fun t47 _=>
bD W R N E P x1 x3 t47 (.sc (.int .i64 0)) h
def bY:N1:=fun W R N E P x1 h=>
bZ W R N E P x1 (.sc (.slice none 0 0)) h
def bT:N1:=fun W R N E P x0 h=>
dF 3 24 x0 h fun t49 sP=>
bY W R N E P t49 sP
theorem aI{x0:AV}{h:AH}{M:WK}{R:RK}(hp:bT (fun id=>M id\/h.next<=id) (aH Pg [.tmp 2] R) (aH Pg [.tmp 2] R) (fun _ _ _=>False) (fun v h=>R (.bV v) h) x0 h):ay Pg 15 [x0] h M R:=
 fin (n:=70) (pl:=[(6,⟨[(none,(fr 0 3)),(some (2,false),(fr 3 6)),(none,(fr 9 2))],false,[],[]⟩),(8,⟨[(none,(fr 0 6)),(some (5,true),(fr 6 2)),(none,(fr 8 1))],false,[],[]⟩),(11,⟨[(none,(fr 0 11))],false,[],[]⟩)]) (rs:=[.tmp 2]) (L:=rs) (fun c=>(a1 bT 0 c)) Tryz.mixed Tryz.func15 (fun c=>
(sq (a1 bT 0 c)
(sq (a1 bY 1 c)
(sn
(sl (a1 n1 3 c))
(sq (a2 bZ 1 3 c)
(bk 0 (lp [1,3,10,11] rs [(0,[3])] (a4 bD 1 3 10 11 c) cn (fun i vs h=>if i=0 then n1 c.W c.R c.N c.E c.P (vs.getD 0 ab) h else c.E i vs h) (.b (.t .o)) fun c=>
(sq (a4 bG 1 3 10 11 c)
(sn
(sn
(sm (a4 n2 1 3 10 11 c))
(bk 1 (sq (a4 bC 1 3 10 11 c)
(sq (a5 bz 1 3 4 10 11 c)
(sn
(sn
(sn
(sm (a5 n3 1 3 5 10 11 c))
(sq (a7 n6 1 3 4 5 6 10 11 c)
(cd (a7 n5 1 3 4 5 10 11 54 c) (sl (a5 n4 1 3 4 10 11 c)) tr)))
(sq (a7 bj 1 3 4 5 6 10 11 c)
(bk 2 (lp [1,3,4,5,6,7,10,11] rs [(2,[1,3,4,5,6,10,11]),(1,[1,3,10,11]),(0,[3])] (a8 bn 1 3 4 5 6 7 10 11 c) fI (fun i vs h=>if i=2 then n6 c.W c.R c.N c.E c.P (vs.getD 0 ab) (vs.getD 1 ab) (vs.getD 2 ab) (vs.getD 3 ab) (vs.getD 4 ab) (vs.getD 5 ab) (vs.getD 6 ab) h else if i=1 then n2 c.W c.R c.N c.E c.P (vs.getD 0 ab) (vs.getD 1 ab) (vs.getD 2 ab) (vs.getD 3 ab) h else c.E i vs h) (.b (.t (.b (.t .o)))) fun c=>
(sn
(sn
(sm (a8 n7 1 3 4 5 6 7 10 11 c))
(bk 3 (sq (a7 n9 1 3 4 5 7 10 11 c)
(sm (a8 n8 1 3 4 5 7 8 10 11 c)))))
(sn
(cd (a9 aP 1 3 4 5 6 7 10 11 35 c) tr tr)
(gr (gn (a8 a_ 1 3 4 5 6 7 10 11 c) (gx (a9 aQ 1 3 4 5 6 7 10 11 32 c) (gl (te aU 1 3 4 5 6 7 10 11 32 34 c)))))))))))
(gr (gn (a6 bu 1 3 4 5 10 11 c) (gx (a7 bg 1 3 4 5 10 11 19 c) (gl (a8 aZ 1 3 4 5 10 11 19 25 c))))))))))
(cd (a5 bE 1 3 10 11 12 c) tr tr)))))))))) hp
attribute [simp] n1 n2 n3 n4 n5 n6 n7 n8 n9 aP aU aQ a_ bj aZ bg bu bz bC bE bG bZ bY bT
end fy
namespace QF
abbrev rs:List Nat:=[2]
def n1:N1:=fun W R _ _ P x0 h=>
aC Pg W 29 [x0] h (fun t1 h2=>
aa Pg .add 9 true (.sc (.string ⟨#[99]⟩)) t1 fun t3=>
R [t3] h2) P
def n2:N1:=fun W R N E P x0 h=>
n1 W R N E P x0 h
theorem aI{x0:AV}{h:AH}{M:WK}{R:RK}(hp:n2 (fun id=>M id\/h.next<=id) (aH Pg [.tmp 2] R) (aH Pg [.tmp 2] R) (fun _ _ _=>False) (fun v h=>R (.bV v) h) x0 h):ay Pg 16 [x0] h M R:=
 fin (n:=6) (pl:=[]) (rs:=[.tmp 2]) (L:=rs) (fun c=>(a1 n2 0 c)) Tryz.mixed Tryz.func16 (fun c=>
(sq (a1 n2 0 c)
(sl (a1 n1 0 c)))) hp
attribute [simp] n1 n2
end QF
namespace fZ
abbrev rs:List Nat:=[4]
def n1:N3:=fun W R _ _ _ x2 x4 x5 h=>
ag (some 1) x2 fun t1=>
ai (some false) (some 1) t1 h fun t2 _=>
ck (some ([.string ⟨#[]⟩,.string ⟨#[]⟩,.slice none 0 0,.int .i64 0,.int .i64 0,.int .i64 0],.inl [(0,1),(1,1),(2,1),(3,1),(4,1),(5,1)])) [(0,(.sc (.string ⟨#[117,115,101]⟩))),(1,t2),(2,x5)] fun t4=>
aG (some 6) x4 t4 h W fun h5=>
R [x4] h5
def n2:N2:=fun W R _ _ _ x4 x5 h=>
ck (some ([.string ⟨#[]⟩,.string ⟨#[]⟩,.slice none 0 0,.int .i64 0,.int .i64 0,.int .i64 0],.inl [(0,1),(1,1),(2,1),(3,1),(4,1),(5,1)])) [(0,(.sc (.string ⟨#[109,101,97,115,117,114,101]⟩))),(2,x5)] fun t6=>
aG (some 6) x4 t6 h W fun h7=>
R [x4] h7
def n3:N6:=fun _ _ N _ _ x2 x4 x5 gS dW eE h=>
aa Pg .add 3 true eE (.sc (.int .i64 1)) fun t8=>
N [x2,x4,x5,gS,dW,t8] h
def n4:N8:=fun W R N E P x2 x4 x5 x8 x9 gS dW eE h=>
ag (some 3) x2 fun t9=>
ai (some false) (some 1) t9 h fun t10 _=>
ag (some 0) x9 fun t12=>
ai (some false) (some 1) t12 h fun t13 _=>
aa Pg .sub 3 false t10 t13 fun t15=>
aC Pg sB 16 [x8] h (fun t16 sT=>
ck (some ([.string ⟨#[]⟩,.int .i64 0],.inl [(0,1),(1,1)])) [(0,t16),(1,t15)] fun t18=>
db (some (2,67,[.string ⟨#[]⟩,.int .i64 0])) 1 [(0,t18)] sT fun t19 qM=>
dV (some (2,24,67)) x5 t19 qM W fun t21 qj=>
n3 W R N E P x2 x4 t21 gS dW eE qj) P
def n5:N9:=fun W R N E P x2 x4 x5 x8 x9 gS dW eE ed h=>
aE ed (
n4 W R N E P x2 x4 x5 x8 x9 gS dW eE h) (
n3 W R N E P x2 x4 x5 gS dW eE h)
def n6:ua:=fun W R N E P x2 x4 x5 x8 x9 gS dW eE gE iX h=>
aJ gE iX (.sc (.bool false)) fun t23=>
n5 W R N E P x2 x4 x5 x8 x9 gS dW eE t23 h
def n7:N9:=fun W R N E P x2 x4 x5 x8 x9 gS dW eE gE h=>
bd true gE (
ag (some 3) x2 fun t24=>
ai (some false) (some 1) t24 h fun t25 _=>
ag (some 0) x9 fun t27=>
ai (some false) (some 1) t27 h fun t28 _=>
ag (some 1) x9 fun t30=>
ai (some false) (some 1) t30 h fun t31 _=>
aa Pg .add 3 false t28 t31 fun t33=>
aa Pg .lss 3 false t25 t33 fun t34=>
n6 W R N E P x2 x4 x5 x8 x9 gS dW eE gE t34 h) (
n6 W R N E P x2 x4 x5 x8 x9 gS dW eE gE ab h)
def n8:N8:=fun W R N E P x2 x4 x5 x8 x9 gS dW eE h=>
ag (some 3) x2 fun t35=>
ai (some false) (some 1) t35 h fun t36 _=>
ag (some 0) x9 fun t38=>
ai (some false) (some 1) t38 h fun t39 _=>
aa Pg .geq 3 false t36 t39 fun t41=>
n7 W R N E P x2 x4 x5 x8 x9 gS dW eE t41 h
def n9:N6:=fun W R N E P x2 x4 x5 gS dW eE h=>
bM (some (2,none)) gS eE fun t42=>
ai (some true) (some 2) t42 h fun t43 _=>
bH (some [.int .i64 0,.int .i64 0]) 2 56 h fun t45 Hs=>
aG (some 2) t45 t43 Hs W fun sQ=>
n8 W R N E P x2 x4 x5 eE t45 gS dW eE sQ
def aP:N7:=fun W R N E P x2 x4 x5 gS dW eE vI h=>
aE vI (
n9 W R N E P x2 x4 x5 gS dW eE h) (
E 3 [x4,x5] h)
def aU:N6:=fun W R N E P x2 x4 x5 gS dW eE h=>
aa Pg .lss 3 false eE dW fun t48=>
aP W R N E P x2 x4 x5 gS dW eE t48 h
def cn:GK:=fun W R N E P N' vs h=>aU W R N' (fun(i:Nat) (vs:List AV) (h:AH)=>if i=3 then n2 W R N E P (vs.getD 0 ab) (vs.getD 1 ab) h else if i=2 then n1 W R N E P (vs.getD 0 ab) (vs.getD 1 ab) (vs.getD 2 ab) h else E i vs h) P (vs.getD 0 ab) (vs.getD 1 ab) (vs.getD 2 ab) (vs.getD 3 ab) (vs.getD 4 ab) (vs.getD 5 ab) h
def aQ:N6:=fun W R N E P x2 x4 x5 gS dW eE h=>
da (cn W R N E P) [x2,x4,x5,gS,dW,eE] h
def a_:N4:=fun W R N E P x1 x2 x4 x5 h=>
(aW x1=false)/\bL x1 fun t49=>
aQ W R N E P x2 x4 x5 x1 t49 (.sc (.int .i64 0)) h
def bn:N2:=fun W R _ _ _ x4 x5 h=>
ck (some ([.string ⟨#[]⟩,.string ⟨#[]⟩,.slice none 0 0,.int .i64 0,.int .i64 0,.int .i64 0],.inl [(0,1),(1,1),(2,1),(3,1),(4,1),(5,1)])) [(0,(.sc (.string ⟨#[114,101,115,101,116]⟩))),(2,x5)] fun t50=>
aG (some 6) x4 t50 h W fun yw=>
R [x4] yw
def bj:N4:=fun W R N E P x2 x4 x5 oe h=>
aE oe (
bn W R N E P x4 x5 h) (
n1 W R N E P x2 x4 x5 h)
def aZ:N4:=fun W R N E P x2 x4 x5 oP h=>
aa Pg .eql 3 true oP (.sc (.int .i64 3)) fun t52=>
bj W R N E P x2 x4 x5 t52 h
def bg:N6:=fun W R N E P x1 x2 x4 x5 oP lV h=>
aE lV (
a_ W R N E P x1 x2 x4 x5 h) (
aZ W R N E P x2 x4 x5 oP h)
def bu:N5:=fun W R N E P x1 x2 x4 x5 oP h=>
aa Pg .eql 3 true oP (.sc (.int .i64 2)) fun t53=>
bg W R N E P x1 x2 x4 x5 oP t53 h
def bz:N4:=fun W R N E P x1 x2 x4 x5 h=>
ag (some 0) x2 fun t54=>
ai (some false) (some 1) t54 h fun t55 _=>
bu W R N E P x1 x2 x4 x5 t55 h
def bC:N7:=fun _ _ N _ _ x1 x2 x4 x5 aA aS bc h=>
aa Pg .add 3 true bc (.sc (.int .i64 1)) fun t57=>
N [x1,x2,x4,x5,aA,aS,t57] h
def bE:N8:=fun W R N E P x1 x2 x4 x5 x7 aA aS bc h=>
ck (some ([.string ⟨#[]⟩,.int .i64 0],.inl [(0,1),(1,1)])) [(0,(.sc (.string ⟨#[113]⟩))),(1,x7)] fun t58=>
db (some (2,67,[.string ⟨#[]⟩,.int .i64 0])) 1 [(0,t58)] h fun t59 UZ=>
dV (some (2,24,67)) x5 t59 UZ W fun t61 wM=>
bC W R N E P x1 x2 x4 t61 aA aS bc wM
def bG:N7:=fun W R N E P x1 x2 x4 x5 aA aS bc h=>
bM (some (1,none)) aA bc fun t63=>
ai (some false) (some 1) t63 h fun t64 _=>
bE W R N E P x1 x2 x4 x5 t64 aA aS bc h
def bD:N8:=fun W R N E P x1 x2 x4 x5 aA aS bc cg h=>
aE cg (
bG W R N E P x1 x2 x4 x5 aA aS bc h) (
E 0 [x1,x2,x4,x5] h)
def bZ:N7:=fun W R N E P x1 x2 x4 x5 aA aS bc h=>
aa Pg .lss 3 false bc aS fun t66=>
bD W R N E P x1 x2 x4 x5 aA aS bc t66 h
def fI:GK:=fun W R N E P N' vs h=>bZ W R N' (fun(i:Nat) (vs:List AV) (h:AH)=>if i=0 then bz W R N E P (vs.getD 0 ab) (vs.getD 1 ab) (vs.getD 2 ab) (vs.getD 3 ab) h else E i vs h) P (vs.getD 0 ab) (vs.getD 1 ab) (vs.getD 2 ab) (vs.getD 3 ab) (vs.getD 4 ab) (vs.getD 5 ab) (vs.getD 6 ab) h
def bY:N7:=fun W R N E P x1 x2 x4 x5 aA aS bc h=>
da (fI W R N E P) [x1,x2,x4,x5,aA,aS,bc] h
def bT:N4:=fun W R N E P x1 x2 x4 x5 h=>
ag (some 2) x2 fun t67=>
ai (some false) (some 1) t67 h fun t68 _=>
(aW t68=false)/\bL t68 fun t70=>
bY W R N E P x1 x2 x4 x5 t68 t70 (.sc (.int .i64 0)) h
def bW:N3:=fun W R N E P x1 x2 x4 h=>
bT W R N E P x1 x2 x4 (.sc (.slice none 0 0)) h
def cj:N2:=fun W R N E P x0 x1 h=>
dF 7 38 x0 h fun t71 Fi=>
bH (some [.string ⟨#[]⟩,.string ⟨#[]⟩,.slice none 0 0,.int .i64 0,.int .i64 0,.int .i64 0]) 6 46 Fi fun t73 Lj=>
bW W R N E P x1 t71 t73 Lj
theorem aI{x0 x1:AV}{h:AH}{M:WK}{R:RK}(hp:cj (fun id=>M id\/h.next<=id) (aH Pg [.cell 4 46] R) (aH Pg [.cell 4 46] R) (fun _ _ _=>False) (fun v h=>R (.bV v) h) x0 x1 h):ay Pg 17 [x0,x1] h M R:=
 fin (n:=71) (pl:=[(12,⟨[(none,(fr 0 6)),(some (5,true),(fr 6 8)),(none,(fr 14 1))],false,[],[]⟩),(13,⟨[(none,[(0,false),(1,false),(3,false),(4,false),(5,false),(6,false),(7,false),(2,false),(8,false),(9,false),(10,false),(11,false)])],false,[],[2]⟩)]) (rs:=[.cell 4 46]) (L:=rs) (fun c=>(a2 cj 0 1 c)) Tryz.mixed Tryz.func17 (fun c=>
(sq (a2 cj 0 1 c)
(sq (a3 bW 1 2 4 c)
(sn
(sn
(sl (a3 n1 2 4 5 c))
(sq (a4 bz 1 2 4 5 c)
(bk 2 (sq (a5 bu 1 2 4 5 24 c)
(cd (a6 bg 1 2 4 5 24 25 c) (sn
(sl (a2 n2 4 5 c))
(sq (a4 a_ 1 2 4 5 c)
(bk 3 (lp [2,4,5,27,28,29] rs [(3,[4,5]),(2,[2,4,5])] (a6 aQ 2 4 5 27 28 29 c) cn (fun i vs h=>if i=3 then n2 c.W c.R c.N c.E c.P (vs.getD 0 ab) (vs.getD 1 ab) h else if i=2 then n1 c.W c.R c.N c.E c.P (vs.getD 0 ab) (vs.getD 1 ab) (vs.getD 2 ab) h else c.E i vs h) (.b (.t (.b (.t .o)))) fun c=>
(sq (a6 aU 2 4 5 27 28 29 c)
(sn
(sn
(sm (a6 n3 2 4 5 27 28 29 c))
(bk 4 (sq (a6 n9 2 4 5 27 28 29 c)
(sn
(cd (a9 n5 2 4 5 8 9 27 28 29 48 c) (gr (gl (a8 n4 2 4 5 8 9 27 28 29 c))) tr)
(gr (gn (a8 n8 2 4 5 8 9 27 28 29 c) (gx (a9 n7 2 4 5 8 9 27 28 29 39 c) (gl (te n6 2 4 5 8 9 27 28 29 39 47 c)))))))))
(cd (a7 aP 2 4 5 27 28 29 30 c) tr tr))))))) (sq (a4 aZ 2 4 5 24 c)
(cd (a4 bj 2 4 5 63 c) (sl (a2 bn 4 5 c)) tr)))))))
(sq (a4 bT 1 2 4 5 c)
(bk 0 (lp [1,2,4,5,11,12,13] rs [(0,[1,2,4,5])] (a7 bY 1 2 4 5 11 12 13 c) fI (fun i vs h=>if i=0 then bz c.W c.R c.N c.E c.P (vs.getD 0 ab) (vs.getD 1 ab) (vs.getD 2 ab) (vs.getD 3 ab) h else c.E i vs h) (.b (.t .o)) fun c=>
(sq (a7 bZ 1 2 4 5 11 12 13 c)
(sn
(sn
(sm (a7 bC 1 2 4 5 11 12 13 c))
(bk 1 (sq (a7 bG 1 2 4 5 11 12 13 c)
(sm (a8 bE 1 2 4 5 7 11 12 13 c)))))
(cd (a8 bD 1 2 4 5 11 12 13 14 c) tr tr)))))))))) hp
attribute [simp] n1 n2 n3 n4 n5 n6 n7 n8 n9 aP aU a_ bn bj aZ bg bu bz bC bE bG bD bZ bT bW cj
end fZ
namespace yM
abbrev rs:List Nat:=[2]
def n1:N1:=fun W R _ _ P x0 h=>
aa Pg .quo 3 true x0 (.sc (.int .i64 10)) fun t1=>
aC Pg W 24 [t1] h (fun t2 h3=>
aa Pg .rem 3 true x0 (.sc (.int .i64 10)) fun t4=>
aC Pg W 24 [t4] h3 (fun t5 h6=>
aa Pg .add 9 false t2 t5 fun t7=>
R [t7] h6) P) P
def n2:N1:=fun _ R _ _ _ x0 h=>
aa Pg .add 3 true (.sc (.int .i64 48)) x0 fun t8=>
l8 (some .u8) t8 fun t9=>
db (some (1,5,[.int .u8 0])) 1 [(0,t9)] h fun t10 mq=>
qx t10 mq fun t12 _=>
R [t12] mq
def n3:N2:=fun W R N E P x0 x4 h=>
aE x4 (
n2 W R N E P x0 h) (
n1 W R N E P x0 h)
def n4:N1:=fun W R N E P x0 h=>
aa Pg .lss 3 true x0 (.sc (.int .i64 10)) fun t14=>
n3 W R N E P x0 t14 h
def n5:N1:=fun W R N E P x0 h=>
n4 W R N E P x0 h
theorem aI{x0:AV}{h:AH}{M:WK}{R:RK}(hp:n5 (fun id=>M id\/h.next<=id) (aH Pg [.tmp 2] R) (aH Pg [.tmp 2] R) (fun _ _ _=>False) (fun v h=>R (.bV v) h) x0 h):ay Pg 24 [x0] h M R:=
 fin (n:=17) (pl:=[]) (rs:=[.tmp 2]) (L:=rs) (fun c=>(a1 n5 0 c)) Tryz.mixed Tryz.func24 (fun c=>
(sq (a1 n5 0 c)
(sn
(sl (a1 n1 0 c))
(sq (a1 n4 0 c)
(cd (a2 n3 0 4 c) (sl (a1 n2 0 c)) tr))))) hp
attribute [simp] n1 n2 n3 n4 n5
end yM
end
end Go.Proofs.YtjehibknlmehmaaGreatDoor
