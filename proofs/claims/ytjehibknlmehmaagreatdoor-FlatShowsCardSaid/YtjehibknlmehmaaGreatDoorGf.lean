/- Bodies of package flat; printed. No condition. -/
import Derived.Test.YtjehibknlmehmaaGreatDoorGl
set_option maxRecDepth 100000
namespace Go.Proofs.YtjehibknlmehmaaGreatDoor
section
open Go.Ab
namespace kO
abbrev rs:List Nat:=[2,3,4]
def n1:N2:=fun W R _ _ _ x2 x5 h=>
bt x5 fun t1=>
ag (some 5) t1 fun t2=>
ai (some true) (some 3) t2 h fun t3 _=>
aG (some 3) x2 t3 h W fun h5=>
R [x2,(.sc (.int .i64 0)),(.sc (.int .i64 0))] h5
def n2:N2:=fun W R _ _ _ x2 x8 h=>
ck (some ([.int .i64 0,.int .i64 0,.slice none 0 0],.inl [(0,1),(1,1),(2,1)])) [] fun t6=>
aG (some 3) x2 t6 h W fun h7=>
R [x2,(.sc (.int .i64 0)),x8] h7
def n3:N3:=fun _ R _ _ _ x2 x3 x4 h=>
R [x2,x3,x4] h
def n4:N4:=fun W R N E P x2 x5 x7 x8 h=>
∃Hd:Nat->Nat,(∀i∈[4,7],h.obj (Hd i)≠none)/\(
ck (some ([.int .i64 0,.int .i64 0,.slice none 0 0],.inl [(0,1),(1,1),(2,1)])) [] fun t8=>
bt x5 fun t9=>
ag (some 4) t9 fun t10=>
ai (some false) (some 1) t10 h fun t11 i12=>
(i12=Hd 4)/\(
bM (some (1,none)) t11 x7 fun t13=>
ai (some false) (some 1) t13 h fun t14 i15=>
(i15=Hd 7)/\(
aG (some 3) x2 t8 h (kL W Hd [4,7]) fun kU=>
n3 W R N E P x2 t14 x8 kU)))
def n5:N5:=fun W R N E P x2 x5 x7 x8 lf h=>
aE lf (
n4 W R N E P x2 x5 x7 x8 h) (
n2 W R N E P x2 x8 h)
def n6:N4:=fun W R N E P x2 x5 x7 x8 h=>
bt x5 fun t17=>
ag (some 4) t17 fun t18=>
ai (some false) (some 1) t18 h fun t19 _=>
(aW t19=false)/\bL t19 fun t21=>
aa Pg .lss 3 false x7 t21 fun t22=>
n5 W R N E P x2 x5 x7 x8 t22 h
def n7:N5:=fun W R N E P x2 x5 x7 x8 fj h=>
aE fj (
n6 W R N E P x2 x5 x7 x8 h) (
n1 W R N E P x2 x5 h)
def n8:N4:=fun W R N E P x2 x5 x7 x8 h=>
aa Pg .neq 28 true x8 (.sc (.int .i64 0)) fun t23=>
n7 W R N E P x2 x5 x7 x8 t23 h
def n9:N2:=fun W R N E P x2 x5 h=>
bt x5 fun t24=>
ag (some 5) t24 fun t25=>
ai (some true) (some 3) t25 h fun t26 _=>
aC Pg W 14 [t26] h (fun t28 Qd=>
cl t28 0 fun t30=>
cl t28 1 fun t31=>
n8 W R N E P x2 x5 t30 t31 Qd) P
def aP:N3:=fun _ R _ _ _ x2 x3 x4 h=>
R [x2,x3,x4] h
def aU:N2:=fun W R N E P x2 x5 h=>
∃Hd:Nat->Nat,(∀i∈[4],h.obj (Hd i)≠none)/\(
ck (some ([.int .i64 0,.int .i64 0,.slice none 0 0],.inl [(0,1),(1,1),(2,1)])) [] fun t32=>
bt x5 fun t33=>
ag (some 8) t33 fun t34=>
ai (some false) (some 1) t34 h fun t35 i36=>
(i36=Hd 4)/\(
aG (some 3) x2 t32 h (kL W Hd [4]) fun vv=>
aP W R N E P x2 t35 (.sc (.int .i64 115)) vv))
def aQ:N3:=fun W R N E P x2 x5 dW h=>
aE dW (
aU W R N E P x2 x5 h) (
n9 W R N E P x2 x5 h)
def a_:N3:=fun W R N E P x0 x2 x5 h=>
(aW x0=false)/\bL x0 fun t38=>
ck (some ([.bool false,.int .u64 0,.int .u64 0],.inl [(0,1),(1,1),(2,1)])) [] fun t39=>
aC Pg W 38 [x5,(.sc (.int .i64 0)),t38,t39] h (fun t40 yx=>
e_ .not t40 fun t42=>
aQ W R N E P x2 x5 t42 yx) P
def bn:N3:=fun _ R _ _ _ x2 x3 x4 h=>
R [x2,x3,x4] h
def bj:N3:=fun W R N E P x2 x5 x6 h=>
∃Hd:Nat->Nat,(∀i∈[4],h.obj (Hd i)≠none)/\(
ck (some ([.int .i64 0,.int .i64 0,.slice none 0 0],.inl [(0,1),(1,1),(2,1)])) [] fun t43=>
bt x5 fun t44=>
ag (some 8) t44 fun t45=>
ai (some false) (some 1) t45 h fun t46 i47=>
(i47=Hd 4)/\(
aG (some 3) x2 t43 h (kL W Hd [4]) fun vt=>
bn W R N E P x2 t46 x6 vt))
def aZ:N5:=fun W R N E P x0 x2 x5 x6 cR h=>
aE cR (
bj W R N E P x2 x5 x6 h) (
a_ W R N E P x0 x2 x5 h)
def bg:N4:=fun W R N E P x0 x2 x5 x6 h=>
aa Pg .neq 28 true x6 (.sc (.int .i64 0)) fun t49=>
aZ W R N E P x0 x2 x5 x6 t49 h
def bu:N3:=fun W R N E P x0 x2 x5 h=>
(aW x0=false)/\bL x0 fun t50=>
aC Pg W 37 [x5,(.sc (.int .i64 0)),t50,(.sc (.int .i64 0)),(.sc (.pointer none))] h (fun t51 yv=>
bg W R N E P x0 x2 x5 t51 yv) P
def bz:N2:=fun W R N E P x0 x2 h=>
aC Pg W 36 [x0] h (fun t53 Dh=>
bu W R N E P x0 x2 t53 Dh) P
def bC:N1:=fun W R N E P x0 h=>
bH (some [.int .i64 0,.int .i64 0,.slice none 0 0]) 3 24 h fun t55 Fq=>
bz W R N E P x0 t55 Fq
theorem aI{x0:AV}{h:AH}{M:WK}{R:RK}(hp:bC (fun id=>M id\/h.next<=id) (aH Pg [.cell 2 24,.tmp 3,.tmp 4] R) (aH Pg [.cell 2 24,.tmp 3,.tmp 4] R) (fun _ _ _=>False) (fun v h=>R (.bV v) h) x0 h):ay Pg 20 [x0] h M R:=
 fin (n:=66) (pl:=[(4,⟨[(none,[(0,false),(1,false),(2,false),(3,false),(4,true),(5,false),(6,false),(7,false),(8,false)])],true,[],[]⟩),(6,⟨[(none,[(0,false),(1,false),(2,false),(3,false),(4,true),(5,false),(6,false),(7,false)])],true,[],[]⟩),(10,⟨[(none,[(0,false),(1,false),(2,false),(3,false),(4,true),(5,false),(6,false),(7,true),(8,false),(9,false),(10,false),(11,false)])],true,[],[]⟩)]) (rs:=[.cell 2 24,.tmp 3,.tmp 4]) (L:=rs) (fun c=>(a1 bC 0 c)) Tryz.mixed Tryz.func20 (fun c=>
(sq (a1 bC 0 c)
(sq (a2 bz 0 2 c)
(sn
(sn
(sn
(sl (a2 n1 2 5 c))
(sq (a2 n9 2 5 c)
(sq (a4 n8 2 5 7 8 c)
(cd (a5 n7 2 5 7 8 43 c) (sn
(sl (a2 n2 2 8 c))
(sq (a4 n6 2 5 7 8 c)
(cd (a5 n5 2 5 7 8 50 c) (sn
(sm (a3 n3 2 3 4 c))
(sm (a4 n4 2 5 7 8 c))) tr))) tr))))
(sq (a3 a_ 0 2 5 c)
(cd (a3 aQ 2 5 28 c) (sn
(sm (a3 aP 2 3 4 c))
(sm (a2 aU 2 5 c))) tr)))
(sq (a3 bu 0 2 5 c)
(sq (a4 bg 0 2 5 6 c)
(cd (a5 aZ 0 2 5 6 16 c) (sn
(sm (a3 bn 2 3 4 c))
(sm (a3 bj 2 5 6 c))) tr))))))) hp
attribute [simp] n1 n2 n3 n4 n5 n6 n7 n8 n9 aP aU aQ a_ bn bj aZ bg bu bz bC
end kO
namespace QD
abbrev rs:List Nat:=[2]
def n1:N1:=fun _ R _ _ _ x0 h=>
qD 94 h fun t1 h2=>
qD 94 h2 fun t3 h4=>
qD 95 h4 fun t5 h6=>
ck (some ([.slice none 0 0,.map none,.map none,.map none,.slice none 0 0,.int .i64 0,.int .i64 0,.slice none 0 0,.int .i64 0],.inl [(0,1),(1,1),(2,1),(3,1),(4,1),(5,3),(8,1)])) [(0,x0),(1,t1),(2,t3),(3,t5)] fun t7=>
dF 9 97 t7 h6 fun t8 h9=>
R [t8] h9
def n2:N1:=fun W R N E P x0 h=>
n1 W R N E P x0 h
theorem aI{x0:AV}{h:AH}{M:WK}{R:RK}(hp:n2 (fun id=>M id\/h.next<=id) (aH Pg [.tmp 2] R) (aH Pg [.tmp 2] R) (fun _ _ _=>False) (fun v h=>R (.bV v) h) x0 h):ay Pg 36 [x0] h M R:=
 fin (n:=9) (pl:=[]) (rs:=[.tmp 2]) (L:=rs) (fun c=>(a1 n2 0 c)) Tryz.mixed Tryz.func36 (fun c=>
(sq (a1 n2 0 c)
(sl (a1 n1 0 c)))) hp
attribute [simp] n1 n2
end QD
namespace du
abbrev rs:List Nat:=[10]
def n1:N0:=fun _ R _ _ _ h=>
R [(.sc (.int .i64 0))] h
def n2:N0:=fun _ R _ _ _ h=>
R [(.sc (.int .i64 100))] h
def n3:N0:=fun _ R _ _ _ h=>
R [(.sc (.int .i64 102))] h
def n4:N0:=fun _ R _ _ _ h=>
R [(.sc (.int .i64 100))] h
def n5:N0:=fun _ R _ _ _ h=>
R [(.sc (.int .i64 100))] h
def n6:N1:=fun W R N E P jx h=>
aE jx (
n5 W R N E P h) (
n1 W R N E P h)
def n7:N2:=fun W R N E P fC pS h=>
aJ fC pS (.sc (.bool false)) fun t1=>
n6 W R N E P t1 h
def n8:N2:=fun W R N E P x6 fC h=>
bd true fC (
ag (some 0) x6 fun t2=>
ai (some false) (some 1) t2 h fun t3 _=>
aa Pg .neq 9 true t3 (.sc (.string ⟨#[114,101,112,101,97,116]⟩)) fun t5=>
n7 W R N E P fC t5 h) (
n7 W R N E P fC ab h)
def n9:N3:=fun W R N E P x6 pT JB h=>
aJ pT JB (.sc (.bool false)) fun t6=>
n8 W R N E P x6 t6 h
def aP:N2:=fun W R N E P x6 pT h=>
bd true pT (
ag (some 0) x6 fun t7=>
ai (some false) (some 1) t7 h fun t8 _=>
aa Pg .neq 9 true t8 (.sc (.string ⟨#[117,115,101]⟩)) fun t10=>
n9 W R N E P x6 pT t10 h) (
n9 W R N E P x6 pT ab h)
def aU:N2:=fun W R N E P x4 x6 h=>
aa Pg .neq 122 true x4 (.sc (.pointer none)) fun t11=>
aP W R N E P x6 t11 h
def aQ:N3:=fun W R N E P x4 x6 iO h=>
aE iO (
n4 W R N E P h) (
aU W R N E P x4 x6 h)
def a_:N4:=fun W R N E P x4 x6 fV lU h=>
aJ fV lU (.sc (.bool false)) fun t12=>
aQ W R N E P x4 x6 t12 h
def bn:N5:=fun W R N E P x4 x6 fV cL D3 h=>
bd true fV (
aJ cL (.sc (.bool true)) D3 fun t13=>
a_ W R N E P x4 x6 fV t13 h) (
a_ W R N E P x4 x6 fV ab h)
def bj:N4:=fun W R N E P x4 x6 fV cL h=>
bd false cL (
ag (some 0) x6 fun t14=>
ai (some false) (some 1) t14 h fun t15 _=>
aa Pg .eql 9 true t15 (.sc (.string ⟨#[103,97,116,101]⟩)) fun t17=>
bn W R N E P x4 x6 fV cL t17 h) (
bn W R N E P x4 x6 fV cL ab h)
def aZ:N5:=fun W R N E P x4 x6 fV ed D4 h=>
bd true fV (
aJ ed (.sc (.bool true)) D4 fun t18=>
bj W R N E P x4 x6 fV t18 h) (
bj W R N E P x4 x6 fV ab h)
def bg:N4:=fun W R N E P x4 x6 fV ed h=>
bd false ed (
ag (some 0) x6 fun t19=>
ai (some false) (some 1) t19 h fun t20 _=>
aa Pg .eql 9 true t20 (.sc (.string ⟨#[98,105,116,115]⟩)) fun t22=>
aZ W R N E P x4 x6 fV ed t22 h) (
aZ W R N E P x4 x6 fV ed ab h)
def bu:N3:=fun W R N E P x4 x6 fV h=>
bd true fV (
ag (some 0) x6 fun t23=>
ai (some false) (some 1) t23 h fun t24 _=>
aa Pg .eql 9 true t24 (.sc (.string ⟨#[113,117,98,105,116,115]⟩)) fun t26=>
bg W R N E P x4 x6 fV t26 h) (
bg W R N E P x4 x6 fV ab h)
def bz:N3:=fun W R N E P x3 x4 x6 h=>
aa Pg .gtr 3 true x3 (.sc (.int .i64 0)) fun t27=>
bu W R N E P x4 x6 t27 h
def bC:N4:=fun W R N E P x3 x4 x6 eK h=>
aE eK (
n3 W R N E P h) (
bz W R N E P x3 x4 x6 h)
def bE:N3:=fun W R N E P x3 x4 x6 h=>
aa Pg .gtr 3 true x3 (.sc (.int .i64 32)) fun t28=>
bC W R N E P x3 x4 x6 t28 h
def bG:N4:=fun W R N E P x3 x4 x6 aA h=>
aE aA (
n2 W R N E P h) (
bE W R N E P x3 x4 x6 h)
def bD:N5:=fun W R N E P x3 x4 x6 eB fD h=>
aJ eB (.sc (.bool true)) fD fun t29=>
bG W R N E P x3 x4 x6 t29 h
def bZ:N5:=fun W R N E P x2 x3 x4 x6 eB h=>
bd false eB (
ag (some 4) x6 fun t30=>
ai (some false) (some 1) t30 h fun t31 _=>
aa Pg .gtr 3 false t31 x2 fun t33=>
bD W R N E P x3 x4 x6 eB t33 h) (
bD W R N E P x3 x4 x6 eB ab h)
def bY:N6:=fun W R N E P x2 x3 x4 x6 gS vI h=>
aJ gS (.sc (.bool true)) vI fun t34=>
bZ W R N E P x2 x3 x4 x6 t34 h
def bT:N5:=fun W R N E P x2 x3 x4 x6 gS h=>
bd false gS (
ag (some 4) x6 fun t35=>
ai (some false) (some 1) t35 h fun t36 _=>
aa Pg .lss 3 true t36 (.sc (.int .i64 0)) fun t38=>
bY W R N E P x2 x3 x4 x6 gS t38 h) (
bY W R N E P x2 x3 x4 x6 gS ab h)
def bW:N6:=fun W R N E P x2 x3 x4 x6 cR lV h=>
aJ cR (.sc (.bool true)) lV fun t39=>
bT W R N E P x2 x3 x4 x6 t39 h
def cj:N7:=fun W R N E P x2 x3 x4 x6 cR lh oP h=>
bd false cR (
aJ lh oP (.sc (.bool false)) fun t40=>
bW W R N E P x2 x3 x4 x6 cR t40 h) (
bW W R N E P x2 x3 x4 x6 cR ab h)
def cq:N6:=fun W R N E P x2 x3 x4 x6 cR lh h=>
bd true lh (
ag (some 4) x6 fun t41=>
ai (some false) (some 1) t41 h fun t42 _=>
aa Pg .neq 3 true t42 (.sc (.int .i64 0)) fun t44=>
cj W R N E P x2 x3 x4 x6 cR lh t44 h) (
cj W R N E P x2 x3 x4 x6 cR lh ab h)
def cN:N5:=fun W R N E P x2 x3 x4 x6 cR h=>
bd false cR (
ag (some 0) x6 fun t45=>
ai (some false) (some 1) t45 h fun t46 _=>
aC Pg W 89 [t46] h (fun t48 Hr=>
e_ .not t48 fun t50=>
cq W R N E P x2 x3 x4 x6 cR t50 Hr) P) (
cq W R N E P x2 x3 x4 x6 cR ab h)
def cV:N4:=fun W R N E P x2 x3 x4 x6 h=>
ag (some 0) x6 fun t51=>
ai (some false) (some 1) t51 h fun t52 _=>
aC Pg W 88 [t52] h (fun t54 Bh=>
e_ .not t54 fun t56=>
cN W R N E P x2 x3 x4 x6 t56 Bh) P
def cX:N4:=fun W R N E P x1 x2 x3 x4 h=>
dF 6 46 x1 h fun t57 tV=>
cV W R N E P x2 x3 x4 t57 tV
theorem aI{x0 x1 x2 x3 x4:AV}{h:AH}{M:WK}{R:RK}(hp:cX (fun id=>M id\/h.next<=id) (aH Pg [.tmp 10] R) (aH Pg [.tmp 10] R) (fun _ _ _=>False) (fun v h=>R (.bV v) h) x1 x2 x3 x4 h):ay Pg 66 [x0,x1,x2,x3,x4] h M R:=
 fin (n:=72) (pl:=[(1,⟨[(none,(fr 0 5)),(some (4,false),(fr 5 5)),(some (9,true),(fr 10 3)),(some (4,false),(fr 13 1)),(none,(fr 14 2)),(some (15,false),(fr 16 3)),(none,(fr 19 2)),(some (20,false),(fr 21 4)),(none,(fr 25 2))],false,[],[]⟩),(5,⟨[(none,(fr 0 3)),(some (2,true),(fr 3 4)),(some (6,false),(fr 7 3)),(some (2,true),(fr 10 2)),(some (11,false),(fr 12 3)),(some (2,true),(fr 15 1)),(none,(fr 16 2))],false,[],[]⟩),(7,⟨[(none,(fr 0 3)),(some (2,true),(fr 3 3)),(none,(fr 6 2)),(some (7,true),(fr 8 3)),(none,(fr 11 2))],false,[],[]⟩)]) (rs:=[.tmp 10]) (L:=rs) (fun c=>(a4 cX 1 2 3 4 c)) Tryz.mixed Tryz.func66 (fun c=>
(sq (a4 cX 1 2 3 4 c)
(sn
(sl (a0 n1 c))
(bk 0 (sn
(cd (a4 bG 3 4 6 11 c) (sl (a0 n2 c)) (sq (a3 bE 3 4 6 c)
(cd (a4 bC 3 4 6 38 c) (sl (a0 n3 c)) (sn
(cd (a3 aQ 4 6 41 c) (sl (a0 n4 c)) (sn
(cd (a1 n6 59 c) (sl (a0 n5 c)) tr)
(gr (gn (a2 aU 4 6 c) (gx (a2 aP 6 62 c) (gn (a3 n9 6 62 65 c) (gx (a2 n8 6 67 c) (gl (a2 n7 67 70 c)))))))))
(gr (gn (a3 bz 3 4 6 c) (gx (a3 bu 4 6 44 c) (gx (a4 bg 4 6 44 48 c) (gx (a5 aZ 4 6 44 48 51 c) (gx (a4 bj 4 6 44 53 c) (gx (a5 bn 4 6 44 53 56 c) (gl (a4 a_ 4 6 44 57 c)))))))))))))
(gr (gn (a4 cV 2 3 4 6 c) (gx (a5 cN 2 3 4 6 16 c) (gx (a6 cq 2 3 4 6 16 21 c) (gx (a7 cj 2 3 4 6 16 21 24 c) (gn (a6 bW 2 3 4 6 16 25 c) (gx (a5 bT 2 3 4 6 27 c) (gn (a6 bY 2 3 4 6 27 30 c) (gx (a5 bZ 2 3 4 6 32 c) (gl (a5 bD 3 4 6 32 36 c)))))))))))))))) hp
attribute [simp] n1 n2 n3 n4 n5 n6 n7 n8 n9 aP aU aQ a_ bn bj aZ bg bu bz bC bE bG bD bZ bY bT bW cj cq cN cV cX
end du
namespace Qw
abbrev rs:List Nat:=[2]
def n1:N1:=fun W R _ _ P x0 h=>
aC Pg W 89 [x0] h (fun t1 h2=>
R [t1] h2) P
def n2:N0:=fun _ R _ _ _ h=>
R [(.sc (.bool true))] h
def n3:N2:=fun W R N E P x0 x4 h=>
aE x4 (
n2 W R N E P h) (
n1 W R N E P x0 h)
def n4:N3:=fun W R N E P x0 x3 x4 h=>
aE x4 (
n3 W R N E P x0 x4 h) (
aa Pg .eql 9 true x3 (.sc (.string ⟨#[114,101,115,101,116]⟩)) fun t3=>
n3 W R N E P x0 t3 h)
def n5:N2:=fun W R N E P x0 x3 h=>
aa Pg .eql 9 true x3 (.sc (.string ⟨#[109,101,97,115,117,114,101]⟩)) fun t4=>
n4 W R N E P x0 x3 t4 h
def n6:N3:=fun W R N E P x0 x3 x4 h=>
aE x4 (
n3 W R N E P x0 x4 h) (
n5 W R N E P x0 x3 h)
def n7:N2:=fun W R N E P x0 x3 h=>
aa Pg .eql 9 true x3 (.sc (.string ⟨#[117,115,101]⟩)) fun t5=>
n6 W R N E P x0 x3 t5 h
def n8:N3:=fun W R N E P x0 x3 x4 h=>
aE x4 (
n3 W R N E P x0 x4 h) (
n7 W R N E P x0 x3 h)
def n9:N2:=fun W R N E P x0 x3 h=>
aa Pg .eql 9 true x3 (.sc (.string ⟨#[98,105,116,115]⟩)) fun t6=>
n8 W R N E P x0 x3 t6 h
def aP:N3:=fun W R N E P x0 x3 x4 h=>
aE x4 (
n3 W R N E P x0 x4 h) (
n9 W R N E P x0 x3 h)
def aU:N2:=fun W R N E P x0 x3 h=>
aa Pg .eql 9 true x3 (.sc (.string ⟨#[113,117,98,105,116,115]⟩)) fun t7=>
aP W R N E P x0 x3 t7 h
def aQ:N1:=fun W R N E P x0 h=>
aU W R N E P x0 x0 h
def a_:N1:=fun W R N E P x0 h=>
aQ W R N E P x0 h
theorem aI{x0:AV}{h:AH}{M:WK}{R:RK}(hp:a_ (fun id=>M id\/h.next<=id) (aH Pg [.tmp 2] R) (aH Pg [.tmp 2] R) (fun _ _ _=>False) (fun v h=>R (.bV v) h) x0 h):ay Pg 88 [x0] h M R:=
 fin (n:=12) (pl:=[]) (rs:=[.tmp 2]) (L:=rs) (fun c=>(a1 a_ 0 c)) Tryz.mixed Tryz.func88 (fun c=>
(sq (a1 a_ 0 c)
(sn
(sl (a1 n1 0 c))
(sq (a1 aQ 0 c)
(bk 0 (sn
(cd (a2 n3 0 4 c) (sl (a0 n2 c)) tr)
(sq (a2 aU 0 3 c)
(cd (a3 aP 0 3 4 c) tr (sq (a2 n9 0 3 c)
(cd (a3 n8 0 3 4 c) tr (sq (a2 n7 0 3 c)
(cd (a3 n6 0 3 4 c) tr (sq (a2 n5 0 3 c)
(cd (a3 n4 0 3 4 c) tr tr)))))))))))))) hp
attribute [simp] n1 n2 n3 n4 n5 n6 n7 n8 n9 aP aU aQ a_
end Qw
namespace YZ
abbrev rs:List Nat:=[2]
def n1:N1:=fun _ R _ _ _ x2 h=>
R [x2] h
def n2:N2:=fun W R N E P x9 aA h=>
aJ x9 (.sc (.bool true)) aA fun t1=>
n1 W R N E P t1 h
def n3:N2:=fun W R N E P x0 x9 h=>
bd false x9 (
aa Pg .eql 9 true x0 (.sc (.string ⟨#[105,102]⟩)) fun t2=>
n2 W R N E P x9 t2 h) (
n2 W R N E P x9 ab h)
def n4:N3:=fun W R N E P x0 x5 x7 h=>
aJ x5 (.sc (.bool true)) x7 fun t3=>
n3 W R N E P x0 t3 h
def n5:N2:=fun W R N E P x0 x5 h=>
bd false x5 (
aa Pg .eql 9 true x0 (.sc (.string ⟨#[114,101,112,101,97,116]⟩)) fun t4=>
n4 W R N E P x0 x5 t4 h) (
n4 W R N E P x0 x5 ab h)
def n6:N1:=fun W R N E P x0 h=>
aa Pg .eql 9 true x0 (.sc (.string ⟨#[103,97,116,101]⟩)) fun t5=>
n5 W R N E P x0 t5 h
def n7:N1:=fun W R N E P x0 h=>
n6 W R N E P x0 h
theorem aI{x0:AV}{h:AH}{M:WK}{R:RK}(hp:n7 (fun id=>M id\/h.next<=id) (aH Pg [.tmp 2] R) (aH Pg [.tmp 2] R) (fun _ _ _=>False) (fun v h=>R (.bV v) h) x0 h):ay Pg 89 [x0] h M R:=
 fin (n:=13) (pl:=[(1,⟨[(none,(fr 0 3)),(some (2,false),(fr 3 2)),(none,(fr 5 2)),(some (6,false),(fr 7 2)),(none,(fr 9 2))],false,[],[]⟩)]) (rs:=[.tmp 2]) (L:=rs) (fun c=>(a1 n7 0 c)) Tryz.mixed Tryz.func89 (fun c=>
(sq (a1 n7 0 c)
(sn
(sm (a1 n1 2 c))
(gr (gn (a1 n6 0 c) (gx (a2 n5 0 5 c) (gn (a3 n4 0 5 7 c) (gx (a2 n3 0 9 c) (gl (a2 n2 9 11 c)))))))))) hp
attribute [simp] n1 n2 n3 n4 n5 n6 n7
end YZ
namespace iV
abbrev rs:List Nat:=[10]
def n1:N0:=fun _ R _ _ _ h=>
R [(.sc (.int .i64 0))] h
def n2:N2:=fun W R N E P x3 x6 h=>
bt x3 fun t1=>
ai (some false) (some 1) t1 h fun t2 _=>
ag (some 3) x6 fun t4=>
ai (some false) (some 1) t4 h fun t5 _=>
aa Pg .add 3 false t2 t5 fun t7=>
bt x3 fun t8=>
aG (some 1) t8 t7 h W fun h9=>
n1 W R N E P h9
def n3:N3:=fun W R N E P x2 x3 x6 h=>
ag (some 1) x6 fun t10=>
ai (some false) (some 1) t10 h fun t11 _=>
bt x3 fun t13=>
ai (some false) (some 1) t13 h fun t14 _=>
ag (some 3) x6 fun t16=>
ai (some false) (some 1) t16 h fun t17 _=>
ck (some ([.int .i64 0,.int .i64 0],.inl [(0,1),(1,1)])) [(0,t14),(1,t17)] fun t19=>
dP Pg (some (9,56)) x2 t11 t19 h W fun qM=>
n2 W R N E P x3 x6 qM
def n4:N0:=fun _ R _ _ _ h=>
R [(.sc (.int .i64 110))] h
def n5:N0:=fun _ R _ _ _ h=>
R [(.sc (.int .i64 112))] h
def n6:N0:=fun _ R _ _ _ h=>
R [(.sc (.int .i64 1))] h
def n7:N4:=fun W R N E P x2 x3 x6 lW h=>
aE lW (
n6 W R N E P h) (
n3 W R N E P x2 x3 x6 h)
def n8:N4:=fun W R N E P x2 x3 x4 x6 h=>
ag (some 3) x6 fun t21=>
ai (some false) (some 1) t21 h fun t22 _=>
bt x3 fun t24=>
ai (some false) (some 1) t24 h fun t25 _=>
aa Pg .sub 3 false x4 t25 fun t27=>
aa Pg .gtr 3 false t22 t27 fun t28=>
n7 W R N E P x2 x3 x6 t28 h
def n9:N5:=fun W R N E P x2 x3 x4 x6 cR h=>
aE cR (
n5 W R N E P h) (
n8 W R N E P x2 x3 x4 x6 h)
def aP:N4:=fun W R N E P x2 x3 x4 x6 h=>
ag (some 3) x6 fun t29=>
ai (some false) (some 1) t29 h fun t30 _=>
aa Pg .lss 3 true t30 (.sc (.int .i64 1)) fun t32=>
n9 W R N E P x2 x3 x4 x6 t32 h
def aU:N5:=fun W R N E P x2 x3 x4 x6 aA h=>
aE aA (
n4 W R N E P h) (
aP W R N E P x2 x3 x4 x6 h)
def aQ:N5:=fun W R N E P x0 x2 x3 x4 x6 h=>
ag (some 1) x6 fun t33=>
ai (some false) (some 1) t33 h fun t34 _=>
aC Pg W 113 [x0,t34] h (fun t36 vv=>
aU W R N E P x2 x3 x4 x6 t36 vv) P
def a_:N5:=fun W R N E P x0 x1 x2 x3 x4 h=>
dF 6 46 x1 h fun t38 yy=>
aQ W R N E P x0 x2 x3 x4 t38 yy
theorem aI{x0 x1 x2 x3 x4:AV}{h:AH}{M:WK}{R:RK}(hp:a_ (fun id=>M id\/h.next<=id) (aH Pg [.tmp 10] R) (aH Pg [.tmp 10] R) (fun _ _ _=>False) (fun v h=>R (.bV v) h) x0 x1 x2 x3 x4 h):ay Pg 90 [x0,x1,x2,x3,x4] h M R:=
 fin (n:=45) (pl:=[(5,⟨[(none,(fr 0 9))],false,[],[]⟩),(7,⟨[(none,(fr 0 10))],false,[],[]⟩),(8,⟨[(none,(fr 0 8))],false,[],[]⟩)]) (rs:=[.tmp 10]) (L:=rs) (fun c=>(a5 a_ 0 1 2 3 4 c)) Tryz.mixed Tryz.func90 (fun c=>
(sq (a5 a_ 0 1 2 3 4 c)
(sn
(sq (a3 n3 2 3 6 c)
(sq (a2 n2 3 6 c)
(sl (a0 n1 c))))
(bk 0 (sq (a5 aQ 0 2 3 4 6 c)
(cd (a5 aU 2 3 4 6 11 c) (sl (a0 n4 c)) (sq (a4 aP 2 3 4 6 c)
(cd (a5 n9 2 3 4 6 16 c) (sl (a0 n5 c)) (sq (a4 n8 2 3 4 6 c)
(cd (a4 n7 2 3 6 20 c) (sl (a0 n6 c)) tr)))))))))) hp
attribute [simp] n1 n2 n3 n4 n5 n6 n7 n8 n9 aP aU aQ a_
end iV
namespace fO
abbrev rs:List Nat:=[6]
def n1:N0:=fun _ R _ _ _ h=>
R [(.sc (.int .i64 0))] h
def n2:N3:=fun W R N E P x0 x4 x7 h=>
bt x0 fun t1=>
ag (some 3) t1 fun t2=>
ai (some false) (some 1) t2 h fun t3 _=>
ag (some 1) x4 fun t5=>
ai (some false) (some 1) t5 h fun t6 _=>
dP Pg (some (9,122)) t3 t6 x7 h W fun h8=>
n1 W R N E P h8
def n3:N7:=fun _ _ N _ _ x0 x4 x7 ap iX ed iI h=>
aa Pg .add 3 true iI (.sc (.int .i64 1)) fun t9=>
N [x0,x4,x7,ap,iX,ed,t9] h
def n4:N8:=fun W R N E P x0 x4 x7 ap aS iX ed iI h=>
bt x7 fun t10=>
ag (some 1) t10 fun t11=>
ai (some false) (some 1) t11 h fun t12 _=>
ag (some 0) aS fun t14=>
ai (some false) (some 1) t14 h fun t15 _=>
db (some (1,9,[.string ⟨#[]⟩])) 1 [(0,t15)] h fun t17 sS=>
dV (some (1,16,9)) t12 t17 sS W fun t19 qM=>
bt x7 fun t21=>
ag (some 1) t21 fun t22=>
aG (some 1) t22 t19 qM W fun Di=>
n3 W R N E P x0 x4 x7 ap iX ed iI Di
def n5:N9:=fun W R N E P x0 x4 x7 ap aA aS iX ed iI h=>
ag (some 0) aS fun t24=>
ai (some false) (some 1) t24 h fun t25 _=>
dP Pg (some (9,3)) ap t25 aA h W fun vz=>
n4 W R N E P x0 x4 x7 ap aS iX ed iI vz
def n6:N0:=fun _ R _ _ _ h=>
R [(.sc (.int .i64 113))] h
def n7:ua:=fun W R N E P x0 x4 x7 ap aA aS iX ed iI ld h=>
aE ld (
n6 W R N E P h) (
n5 W R N E P x0 x4 x7 ap aA aS iX ed iI h)
def n8:ua:=fun W R N E P x0 x4 x7 ap aA aS cg iX ed iI h=>
n7 W R N E P x0 x4 x7 ap aA aS iX ed iI cg h
def n9:N9:=fun W R N E P x0 x4 x7 ap aA aS iX ed iI h=>
ag (some 0) aS fun t28=>
ai (some false) (some 1) t28 h fun t29 _=>
fX Pg (some (9,3)) ap t29 true h fun t31 _=>
cl t31 0 fun t33=>
cl t31 1 fun t34=>
n8 W R N E P x0 x4 x7 ap aA aS t34 iX ed iI h
def aP:N7:=fun W R N E P x0 x4 x7 ap iX ed iI h=>
bM (some (2,none)) iX iI fun t35=>
ai (some true) (some 2) t35 h fun t36 _=>
bH (some [.string ⟨#[]⟩,.int .i64 0]) 2 67 h fun t38 yy=>
aG (some 2) t38 t36 yy W fun P_=>
n9 W R N E P x0 x4 x7 ap iI t38 iX ed iI P_
def aU:N8:=fun W R N E P x0 x4 x7 ap iX ed iI lf h=>
aE lf (
aP W R N E P x0 x4 x7 ap iX ed iI h) (
E 2 [x0,x4,x7] h)
def aQ:N7:=fun W R N E P x0 x4 x7 ap iX ed iI h=>
aa Pg .lss 3 false iI ed fun t41=>
aU W R N E P x0 x4 x7 ap iX ed iI t41 h
def cn:GK:=fun W R N E P N' vs h=>aQ W R N' (fun(i:Nat) (vs:List AV) (h:AH)=>if i=2 then n2 W R N E P (vs.getD 0 ab) (vs.getD 1 ab) (vs.getD 2 ab) h else E i vs h) P (vs.getD 0 ab) (vs.getD 1 ab) (vs.getD 2 ab) (vs.getD 3 ab) (vs.getD 4 ab) (vs.getD 5 ab) (vs.getD 6 ab) h
def a_:N7:=fun W R N E P x0 x4 x7 ap iX ed iI h=>
da (cn W R N E P) [x0,x4,x7,ap,iX,ed,iI] h
def bn:N4:=fun W R N E P x0 x4 x7 ap h=>
ag (some 2) x4 fun t42=>
ai (some false) (some 1) t42 h fun t43 _=>
(aW t43=false)/\bL t43 fun t45=>
a_ W R N E P x0 x4 x7 ap t43 t45 (.sc (.int .i64 0)) h
def bj:N3:=fun W R N E P x0 x4 x7 h=>
qD 157 h fun t46 sQ=>
bn W R N E P x0 x4 x7 t46 sQ
def aZ:N6:=fun _ _ N _ _ x0 x4 x7 kR fD eL h=>
aa Pg .add 3 true eL (.sc (.int .i64 1)) fun t48=>
N [x0,x4,x7,kR,fD,t48] h
def bg:N0:=fun _ R _ _ _ h=>
R [(.sc (.int .i64 112))] h
def bu:N7:=fun W R N E P x0 x4 x7 kR fD eL fj h=>
aE fj (
bg W R N E P h) (
aZ W R N E P x0 x4 x7 kR fD eL h)
def bz:N7:=fun W R N E P x0 x4 x7 x9 kR fD eL h=>
ag (some 1) x9 fun t49=>
ai (some false) (some 1) t49 h fun t50 _=>
aa Pg .neq 3 true t50 (.sc (.int .i64 (-1))) fun t52=>
bu W R N E P x0 x4 x7 kR fD eL t52 h
def bC:N6:=fun W R N E P x0 x4 x7 kR fD eL h=>
bM (some (2,none)) kR eL fun t53=>
ai (some true) (some 2) t53 h fun t54 _=>
bH (some [.string ⟨#[]⟩,.int .i64 0]) 2 67 h fun t56 wN=>
aG (some 2) t56 t54 wN W fun tV=>
bz W R N E P x0 x4 x7 t56 kR fD eL tV
def bE:N7:=fun W R N E P x0 x4 x7 kR fD eL eK h=>
aE eK (
bC W R N E P x0 x4 x7 kR fD eL h) (
E 0 [x0,x4,x7] h)
def bG:N6:=fun W R N E P x0 x4 x7 kR fD eL h=>
aa Pg .lss 3 false eL fD fun t59=>
bE W R N E P x0 x4 x7 kR fD eL t59 h
def fI:GK:=fun W R N E P N' vs h=>bG W R N' (fun(i:Nat) (vs:List AV) (h:AH)=>if i=0 then bj W R N E P (vs.getD 0 ab) (vs.getD 1 ab) (vs.getD 2 ab) h else E i vs h) P (vs.getD 0 ab) (vs.getD 1 ab) (vs.getD 2 ab) (vs.getD 3 ab) (vs.getD 4 ab) (vs.getD 5 ab) h
def bD:N6:=fun W R N E P x0 x4 x7 kR fD eL h=>
da (fI W R N E P) [x0,x4,x7,kR,fD,eL] h
def bZ:N3:=fun W R N E P x0 x4 x7 h=>
ag (some 2) x4 fun t60=>
ai (some false) (some 1) t60 h fun t61 _=>
(aW t61=false)/\bL t61 fun t63=>
bD W R N E P x0 x4 x7 t61 t63 (.sc (.int .i64 0)) h
def bY:N3:=fun W R N E P x0 x2 x4 h=>
ag (some 1) x4 fun t64=>
ai (some false) (some 1) t64 h fun t65 _=>
aa Pg .add 3 true x2 (.sc (.int .i64 1)) fun t67=>
aa Pg .add 3 true x2 (.sc (.int .i64 1)) fun t68=>
ag (some 4) x4 fun t69=>
ai (some false) (some 1) t69 h fun t70 _=>
aa Pg .add 3 false t68 t70 fun t72=>
ck (some ([.string ⟨#[]⟩,.slice none 0 0,.int .i64 0,.int .i64 0,.int .i64 0,.int .i64 0,.bool false],.inl [(0,1),(1,1),(2,1),(3,1),(4,1),(5,1),(6,1)])) [(0,t65),(2,t67),(3,t72),(4,(.sc (.int .i64 1)))] fun t73=>
dF 7 127 t73 h fun t74 UX=>
bZ W R N E P x0 x4 t74 UX
def bT:N0:=fun _ R _ _ _ h=>
R [(.sc (.int .i64 111))] h
def bW:N4:=fun W R N E P x0 x2 x4 Aj h=>
aE Aj (
bT W R N E P h) (
bY W R N E P x0 x2 x4 h)
def cj:N3:=fun W R N E P x0 x2 x4 h=>
ag (some 2) x4 fun t76=>
ai (some false) (some 1) t76 h fun t77 _=>
(aW t77=false)/\bL t77 fun t79=>
aa Pg .eql 3 true t79 (.sc (.int .i64 0)) fun t80=>
bW W R N E P x0 x2 x4 t80 h
def cq:N0:=fun _ R _ _ _ h=>
R [(.sc (.int .i64 110))] h
def cN:N4:=fun W R N E P x0 x2 x4 il h=>
aE il (
cq W R N E P h) (
cj W R N E P x0 x2 x4 h)
def cV:N3:=fun W R N E P x0 x2 x4 h=>
ag (some 1) x4 fun t81=>
ai (some false) (some 1) t81 h fun t82 _=>
aC Pg W 113 [x0,t82] h (fun t84 Bf=>
cN W R N E P x0 x2 x4 t84 Bf) P
def cX:N3:=fun W R N E P x0 x1 x2 h=>
dF 6 46 x1 h fun t86 UT=>
cV W R N E P x0 x2 t86 UT
theorem aI{x0 x1 x2:AV}{h:AH}{M:WK}{R:RK}(hp:cX (fun id=>M id\/h.next<=id) (aH Pg [.tmp 6] R) (aH Pg [.tmp 6] R) (fun _ _ _=>False) (fun v h=>R (.bV v) h) x0 x1 x2 h):ay Pg 91 [x0,x1,x2] h M R:=
 fin (n:=85) (pl:=[(20,⟨[(none,(fr 0 12))],false,[],[]⟩),(22,⟨[(none,(fr 0 8))],false,[],[]⟩)]) (rs:=[.tmp 6]) (L:=rs) (fun c=>(a3 cX 0 1 2 c)) Tryz.mixed Tryz.func91 (fun c=>
(sq (a3 cX 0 1 2 c)
(sn
(sn
(sq (a3 bY 0 2 4 c)
(sn
(sq (a3 bj 0 4 7 c)
(sn
(sq (a3 n2 0 4 7 c)
(sl (a0 n1 c)))
(sq (a4 bn 0 4 7 10 c)
(bk 2 (lp [0,4,7,10,47,48,49] rs [(2,[0,4,7])] (a7 a_ 0 4 7 10 47 48 49 c) cn (fun i vs h=>if i=2 then n2 c.W c.R c.N c.E c.P (vs.getD 0 ab) (vs.getD 1 ab) (vs.getD 2 ab) h else c.E i vs h) (.b (.t .o)) fun c=>
(sq (a7 aQ 0 4 7 10 47 48 49 c)
(sn
(sn
(sm (a7 n3 0 4 7 10 47 48 49 c))
(bk 3 (sq (a7 aP 0 4 7 10 47 48 49 c)
(sn
(sq (a9 n5 0 4 7 10 11 12 47 48 49 c)
(sm (a8 n4 0 4 7 10 12 47 48 49 c)))
(sq (a9 n9 0 4 7 10 11 12 47 48 49 c)
(sq (te n8 0 4 7 10 11 12 14 47 48 49 c)
(cd (te n7 0 4 7 10 11 12 47 48 49 61 c) (sl (a0 n6 c)) tr)))))))
(cd (a8 aU 0 4 7 10 47 48 49 50 c) tr tr))))))))
(sq (a3 bZ 0 4 7 c)
(bk 0 (lp [0,4,7,35,36,37] rs [(0,[0,4,7])] (a6 bD 0 4 7 35 36 37 c) fI (fun i vs h=>if i=0 then bj c.W c.R c.N c.E c.P (vs.getD 0 ab) (vs.getD 1 ab) (vs.getD 2 ab) h else c.E i vs h) (.b (.t .o)) fun c=>
(sq (a6 bG 0 4 7 35 36 37 c)
(sn
(sn
(sm (a6 aZ 0 4 7 35 36 37 c))
(bk 1 (sq (a6 bC 0 4 7 35 36 37 c)
(sq (a7 bz 0 4 7 9 35 36 37 c)
(cd (a7 bu 0 4 7 35 36 37 43 c) (sl (a0 bg c)) tr)))))
(cd (a7 bE 0 4 7 35 36 37 38 c) tr tr))))))))
(sq (a3 cj 0 2 4 c)
(cd (a4 bW 0 2 4 22 c) (sl (a0 bT c)) tr)))
(sq (a3 cV 0 2 4 c)
(cd (a4 cN 0 2 4 18 c) (sl (a0 cq c)) tr))))) hp
attribute [simp] n1 n2 n3 n4 n5 n6 n7 n8 n9 aP aU aQ bn bj aZ bg bu bz bC bE bG bZ bY bT bW cj cq cN cV cX
end fO
namespace cF
abbrev rs:List Nat:=[6]
def n1:N0:=fun _ R _ _ _ h=>
R [(.sc (.int .i64 0))] h
def n2:N2:=fun W R N E P x2 x8 h=>
bt x2 fun t1=>
ag (some 4) t1 fun t2=>
ai (some false) (some 1) t2 h fun t3 _=>
aa Pg .add 3 true x8 (.sc (.int .i64 1)) fun t5=>
vd false t3 t5 fun t6=>
bt x2 fun t7=>
ag (some 4) t7 fun t8=>
aG (some 1) t8 t6 h W fun h9=>
n1 W R N E P h9
def n3:N0:=fun _ R _ _ _ h=>
R [(.sc (.int .i64 102))] h
def n4:N3:=fun W R N E P x2 x8 Zo h=>
aE Zo (
n3 W R N E P h) (
n2 W R N E P x2 x8 h)
def n5:N2:=fun W R N E P x2 x8 h=>
aa Pg .add 3 true x8 (.sc (.int .i64 1)) fun t10=>
aa Pg .gtr 3 true t10 (.sc (.int .i64 32)) fun t11=>
n4 W R N E P x2 x8 t11 h
def n6:N3:=fun W R N E P x2 x8 Zp h=>
aE Zp (
n5 W R N E P x2 x8 h) (
n1 W R N E P h)
def n7:N2:=fun W R N E P x2 x8 h=>
aa Pg .neq 122 true x2 (.sc (.pointer none)) fun t12=>
n6 W R N E P x2 x8 t12 h
def n8:N6:=fun _ _ N _ _ x2 x8 cg gP gU jl h=>
aa Pg .add 3 true jl (.sc (.int .i64 1)) fun t13=>
N [x2,x8,cg,gP,gU,t13] h
def n9:N8:=fun W R N E P x2 x8 cg dn cR gP gU jl h=>
ai (some true) (some 2) cR h fun t14 _=>
dP Pg (some (67,3)) cg t14 dn h W fun kU=>
n8 W R N E P x2 x8 cg gP gU jl kU
def aP:N0:=fun _ R _ _ _ h=>
R [(.sc (.int .i64 113))] h
def aU:N9:=fun W R N E P x2 x8 cg dn cR gP gU jl Zr h=>
aE Zr (
aP W R N E P h) (
n9 W R N E P x2 x8 cg dn cR gP gU jl h)
def aQ:N9:=fun W R N E P x2 x8 cg dn cR il gP gU jl h=>
aU W R N E P x2 x8 cg dn cR gP gU jl il h
def a_:N8:=fun W R N E P x2 x8 cg dn cR gP gU jl h=>
ai (some true) (some 2) cR h fun t17 _=>
fX Pg (some (67,3)) cg t17 true h fun t19 _=>
cl t19 0 fun t21=>
cl t19 1 fun t22=>
aQ W R N E P x2 x8 cg dn cR t22 gP gU jl h
def bn:N6:=fun W R N E P x2 x8 cg gP gU jl h=>
bM (some (2,none)) gP jl fun t23=>
ai (some true) (some 2) t23 h fun t24 _=>
bH (some [.string ⟨#[]⟩,.int .i64 0]) 2 67 h fun t26 vz=>
aG (some 2) t26 t24 vz W fun vy=>
a_ W R N E P x2 x8 cg jl t26 gP gU jl vy
def bj:N7:=fun W R N E P x2 x8 cg gP gU jl yO h=>
aE yO (
bn W R N E P x2 x8 cg gP gU jl h) (
E 2 [x2,x8] h)
def aZ:N6:=fun W R N E P x2 x8 cg gP gU jl h=>
aa Pg .lss 3 false jl gU fun t29=>
bj W R N E P x2 x8 cg gP gU jl t29 h
def cn:GK:=fun W R N E P N' vs h=>aZ W R N' (fun(i:Nat) (vs:List AV) (h:AH)=>if i=2 then n7 W R N E P (vs.getD 0 ab) (vs.getD 1 ab) h else E i vs h) P (vs.getD 0 ab) (vs.getD 1 ab) (vs.getD 2 ab) (vs.getD 3 ab) (vs.getD 4 ab) (vs.getD 5 ab) h
def bg:N6:=fun W R N E P x2 x8 cg gP gU jl h=>
da (cn W R N E P) [x2,x8,cg,gP,gU,jl] h
def bu:N4:=fun W R N E P x2 x4 x8 cg h=>
ag (some 2) x4 fun t30=>
ai (some false) (some 1) t30 h fun t31 _=>
(aW t31=false)/\bL t31 fun t33=>
bg W R N E P x2 x8 cg t31 t33 (.sc (.int .i64 0)) h
def bz:N3:=fun W R N E P x2 x4 x8 h=>
qD 173 h fun t34 rW=>
bu W R N E P x2 x4 x8 t34 rW
def bC:N7:=fun _ _ N _ _ x0 x2 x4 x8 fC fL gQ h=>
aa Pg .add 3 true gQ (.sc (.int .i64 1)) fun t36=>
N [x0,x2,x4,x8,fC,fL,t36] h
def bE:N0:=fun _ R _ _ _ h=>
R [(.sc (.int .i64 110))] h
def bG:N8:=fun W R N E P x0 x2 x4 x8 fC fL gQ SA h=>
aE SA (
bE W R N E P h) (
bC W R N E P x0 x2 x4 x8 fC fL gQ h)
def bD:N8:=fun W R N E P x0 x2 x4 x8 aS fC fL gQ h=>
bt x2 fun t37=>
ag (some 1) t37 fun t38=>
ai (some false) (some 1) t38 h fun t39 _=>
ag (some 0) aS fun t41=>
ai (some false) (some 1) t41 h fun t42 _=>
aC Pg sB 114 [t39,t42] h (fun t44 vu=>
e_ .not t44 fun t46=>
bG W R N E P x0 x2 x4 x8 fC fL gQ t46 vu) P
def bZ:N0:=fun _ R _ _ _ h=>
R [(.sc (.int .i64 112))] h
def bY:N9:=fun W R N E P x0 x2 x4 x8 aS fC fL gQ Ae h=>
aE Ae (
bZ W R N E P h) (
bD W R N E P x0 x2 x4 x8 aS fC fL gQ h)
def bT:N8:=fun W R N E P x0 x2 x4 x8 aS fC fL gQ h=>
ag (some 1) aS fun t47=>
ai (some false) (some 1) t47 h fun t48 _=>
aa Pg .neq 3 true t48 (.sc (.int .i64 (-1))) fun t50=>
bY W R N E P x0 x2 x4 x8 aS fC fL gQ t50 h
def bW:N7:=fun W R N E P x0 x2 x4 x8 fC fL gQ h=>
bC W R N E P x0 x2 x4 x8 fC fL gQ h
def cj:N1:=fun _ R _ _ _ bc h=>
R [bc] h
def cq:N9:=fun W R N E P x0 x2 x4 x8 bc fC fL gQ JA h=>
aE JA (
cj W R N E P bc h) (
bW W R N E P x0 x2 x4 x8 fC fL gQ h)
def cN:N8:=fun W R N E P x0 x2 x4 x8 bc fC fL gQ h=>
aa Pg .neq 28 true bc (.sc (.int .i64 0)) fun t51=>
cq W R N E P x0 x2 x4 x8 bc fC fL gQ t51 h
def cV:N8:=fun W R N E P x0 x2 x4 x8 aS fC fL gQ h=>
bt x0 fun t52=>
ag (some 1) t52 fun t53=>
ai (some false) (some 1) t53 h fun t54 _=>
ai (some true) (some 2) aS h fun t56 _=>
aC Pg sB 93 [t54,t56] h (fun t58 Fp=>
cN W R N E P x0 x2 x4 x8 t58 fC fL gQ Fp) P
def cX:N9:=fun W R N E P x0 x2 x4 x8 aS fC fL gQ SK h=>
aE SK (
cV W R N E P x0 x2 x4 x8 aS fC fL gQ h) (
bT W R N E P x0 x2 x4 x8 aS fC fL gQ h)
def dH:N8:=fun W R N E P x0 x2 x4 x8 aS fC fL gQ h=>
aa Pg .eql 122 true x2 (.sc (.pointer none)) fun t60=>
cX W R N E P x0 x2 x4 x8 aS fC fL gQ t60 h
def eh:N7:=fun W R N E P x0 x2 x4 x8 fC fL gQ h=>
bM (some (2,none)) fC gQ fun t61=>
ai (some true) (some 2) t61 h fun t62 _=>
bH (some [.string ⟨#[]⟩,.int .i64 0]) 2 67 h fun t64 UY=>
aG (some 2) t64 t62 UY W fun Fk=>
dH W R N E P x0 x2 x4 x8 t64 fC fL gQ Fk
def ft:N8:=fun W R N E P x0 x2 x4 x8 fC fL gQ pS h=>
aE pS (
eh W R N E P x0 x2 x4 x8 fC fL gQ h) (
E 0 [x2,x4,x8] h)
def fc:N7:=fun W R N E P x0 x2 x4 x8 fC fL gQ h=>
aa Pg .lss 3 false gQ fL fun t67=>
ft W R N E P x0 x2 x4 x8 fC fL gQ t67 h
def fI:GK:=fun W R N E P N' vs h=>fc W R N' (fun(i:Nat) (vs:List AV) (h:AH)=>if i=0 then bz W R N E P (vs.getD 0 ab) (vs.getD 1 ab) (vs.getD 2 ab) h else E i vs h) P (vs.getD 0 ab) (vs.getD 1 ab) (vs.getD 2 ab) (vs.getD 3 ab) (vs.getD 4 ab) (vs.getD 5 ab) (vs.getD 6 ab) h
def fQ:N7:=fun W R N E P x0 x2 x4 x8 fC fL gQ h=>
da (fI W R N E P) [x0,x2,x4,x8,fC,fL,gQ] h
def fM:N4:=fun W R N E P x0 x2 x4 x8 h=>
ag (some 2) x4 fun t68=>
ai (some false) (some 1) t68 h fun t69 _=>
(aW t69=false)/\bL t69 fun t71=>
fQ W R N E P x0 x2 x4 x8 t69 t71 (.sc (.int .i64 0)) h
def gh:N0:=fun _ R _ _ _ h=>
R [(.sc (.int .i64 111))] h
def fq:N5:=fun W R N E P x0 x2 x4 x8 JB h=>
aE JB (
gh W R N E P h) (
fM W R N E P x0 x2 x4 x8 h)
def fp:N5:=fun W R N E P x0 x2 x4 x7 x8 h=>
ag (some 2) x4 fun t72=>
ai (some false) (some 1) t72 h fun t73 _=>
(aW t73=false)/\bL t73 fun t75=>
aa Pg .neq 3 false t75 x7 fun t76=>
fq W R N E P x0 x2 x4 x8 t76 h
def gg:N0:=fun _ R _ _ _ h=>
R [(.sc (.int .i64 80))] h
def gI:N6:=fun W R N E P x0 x2 x4 x7 x8 iH h=>
aE iH (
gg W R N E P h) (
fp W R N E P x0 x2 x4 x7 x8 h)
def gv:N5:=fun W R N E P x0 x2 x4 x7 x8 h=>
aa Pg .eql 3 true x7 (.sc (.int .i64 0)) fun t77=>
gI W R N E P x0 x2 x4 x7 x8 t77 h
def iQ:N7:=fun W R N E P x0 x2 x4 x7 x8 x9 iI h=>
aE iI (
bt x9 fun t78=>
ag (some 1) t78 fun t79=>
ai (some false) (some 1) t79 h fun t80 _=>
(aW t80=false)/\bL t80 fun t82=>
bt x9 fun t83=>
ag (some 4) t83 fun t84=>
ai (some false) (some 1) t84 h fun t85 _=>
gv W R N E P x0 x2 x4 t82 t85 h) (
gv W R N E P x0 x2 x4 x7 x8 h)
def gT:N8:=fun W R N E P x0 x2 x4 x7 x8 x9 fV ed h=>
aJ fV ed (.sc (.bool false)) fun t87=>
iQ W R N E P x0 x2 x4 x7 x8 x9 t87 h
def oS:N7:=fun W R N E P x0 x2 x4 x7 x8 x9 fV h=>
bd true fV (
bt x9 fun t88=>
ag (some 6) t88 fun t89=>
ai (some false) (some 1) t89 h fun t90 _=>
gT W R N E P x0 x2 x4 x7 x8 x9 fV t90 h) (
gT W R N E P x0 x2 x4 x7 x8 x9 fV ab h)
def nQ:N7:=fun W R N E P x0 x2 x4 x7 x8 x9 ap h=>
oS W R N E P x0 x2 x4 x7 x8 x9 ap h
def jB:N5:=fun W R N E P x0 x2 x4 x7 x8 h=>
bt x0 fun t92=>
ag (some 3) t92 fun t93=>
ai (some false) (some 1) t93 h fun t94 _=>
ag (some 1) x4 fun t96=>
ai (some false) (some 1) t96 h fun t97 _=>
fX Pg (some (9,122)) t94 t97 true h fun t99 _=>
cl t99 0 fun t101=>
cl t99 1 fun t102=>
nQ W R N E P x0 x2 x4 x7 x8 t101 t102 h
def sE:N3:=fun W R N E P x0 x2 x4 h=>
ag (some 1) x4 fun t103=>
ai (some false) (some 1) t103 h fun t104 _=>
aC Pg W 44 [t104] h (fun t106 abt=>
jB W R N E P x0 x2 x4 t106 (.sc (.int .i64 0)) abt) P
def vf:N0:=fun _ R _ _ _ h=>
R [(.sc (.int .i64 114))] h
def sD:N4:=fun W R N E P x0 x2 x4 eE h=>
aE eE (
vf W R N E P h) (
sE W R N E P x0 x2 x4 h)
def pZ:N5:=fun W R N E P x0 x2 x4 lh dW h=>
aJ lh dW (.sc (.bool false)) fun t108=>
sD W R N E P x0 x2 x4 t108 h
def we:N4:=fun W R N E P x0 x2 x4 lh h=>
bd true lh (
ag (some 1) x4 fun t109=>
ai (some false) (some 1) t109 h fun t110 _=>
bt x2 fun t112=>
ag (some 0) t112 fun t113=>
ai (some false) (some 1) t113 h fun t114 _=>
aa Pg .eql 9 false t110 t114 fun t116=>
pZ W R N E P x0 x2 x4 lh t116 h) (
pZ W R N E P x0 x2 x4 lh ab h)
def AL:N3:=fun W R N E P x0 x2 x4 h=>
aa Pg .neq 122 true x2 (.sc (.pointer none)) fun t117=>
we W R N E P x0 x2 x4 t117 h
def AK:N3:=fun W R N E P x0 x1 x2 h=>
dF 6 46 x1 h fun t118 Nq=>
AL W R N E P x0 x2 t118 Nq
theorem aI{x0 x1 x2:AV}{h:AH}{M:WK}{R:RK}(hp:AK (fun id=>M id\/h.next<=id) (aH Pg [.tmp 6] R) (aH Pg [.tmp 6] R) (fun _ _ _=>False) (fun v h=>R (.bV v) h) x0 x1 x2 h):ay Pg 92 [x0,x1,x2] h M R:=
 fin (n:=131) (pl:=[(1,⟨[(none,(fr 0 3)),(some (2,true),(fr 3 7)),(none,(fr 10 1))],false,[],[]⟩),(4,⟨[(none,(fr 0 12))],false,[],[]⟩),(5,⟨[(none,(fr 0 2)),(some (1,true),(fr 2 4)),(none,(fr 6 1))],false,[],[]⟩),(6,⟨[(none,(fr 0 11))],false,[],[]⟩),(15,⟨[(none,(fr 0 7))],false,[],[5]⟩),(20,⟨[(none,(fr 0 8))],false,[],[6]⟩)]) (rs:=[.tmp 6]) (L:=rs) (fun c=>(a3 AK 0 1 2 c)) Tryz.mixed Tryz.func92 (fun c=>
(sq (a3 AK 0 1 2 c)
(sn
(sq (a3 sE 0 2 4 c)
(sn
(sn
(sn
(sn
(sq (a3 bz 2 4 8 c)
(sn
(sn
(sl (a0 n1 c))
(sq (a2 n7 2 8 c)
(cd (a3 n6 2 8 117 c) (sn
(sm (a2 n2 2 8 c))
(sq (a2 n5 2 8 c)
(cd (a3 n4 2 8 120 c) (sl (a0 n3 c)) tr))) tr)))
(sq (a4 bu 2 4 8 14 c)
(bk 2 (lp [2,8,14,98,99,100] rs [(2,[2,8])] (a6 bg 2 8 14 98 99 100 c) cn (fun i vs h=>if i=2 then n7 c.W c.R c.N c.E c.P (vs.getD 0 ab) (vs.getD 1 ab) h else c.E i vs h) (.b (.t .o)) fun c=>
(sq (a6 aZ 2 8 14 98 99 100 c)
(sn
(sn
(sm (a6 n8 2 8 14 98 99 100 c))
(bk 3 (sq (a6 bn 2 8 14 98 99 100 c)
(sn
(sm (a8 n9 2 8 14 15 16 98 99 100 c))
(sq (a8 a_ 2 8 14 15 16 98 99 100 c)
(sq (a9 aQ 2 8 14 15 16 18 98 99 100 c)
(cd (a9 aU 2 8 14 15 16 98 99 100 111 c) (sl (a0 aP c)) tr)))))))
(cd (a7 bj 2 8 14 98 99 100 101 c) tr tr))))))))
(sq (a4 fM 0 2 4 8 c)
(bk 0 (lp [0,2,4,8,67,68,69] rs [(0,[2,4,8])] (a7 fQ 0 2 4 8 67 68 69 c) fI (fun i vs h=>if i=0 then bz c.W c.R c.N c.E c.P (vs.getD 0 ab) (vs.getD 1 ab) (vs.getD 2 ab) h else c.E i vs h) (.b (.t .o)) fun c=>
(sq (a7 fc 0 2 4 8 67 68 69 c)
(sn
(sn
(sm (a7 bC 0 2 4 8 67 68 69 c))
(bk 1 (sq (a7 eh 0 2 4 8 67 68 69 c)
(sn
(sn
(sn
(cd (a8 bG 0 2 4 8 67 68 69 94 c) (sl (a0 bE c)) tr)
(gr (gl (a8 bD 0 2 4 8 12 67 68 69 c))))
(sq (a8 bT 0 2 4 8 12 67 68 69 c)
(cd (a9 bY 0 2 4 8 12 67 68 69 86 c) (sl (a0 bZ c)) tr)))
(sq (a8 dH 0 2 4 8 12 67 68 69 c)
(cd (a9 cX 0 2 4 8 12 67 68 69 74 c) (sn
(sm (a7 bW 0 2 4 8 67 68 69 c))
(sn
(sq (a8 cN 0 2 4 8 13 67 68 69 c)
(cd (a9 cq 0 2 4 8 13 67 68 69 82 c) (sl (a1 cj 13 c)) tr))
(gr (gl (a8 cV 0 2 4 8 12 67 68 69 c))))) tr))))))
(cd (a8 ft 0 2 4 8 67 68 69 70 c) tr tr)))))))
(sq (a5 fp 0 2 4 7 8 c)
(cd (a5 fq 0 2 4 8 65 c) (sl (a0 gh c)) tr)))
(sq (a5 gv 0 2 4 7 8 c)
(cd (a6 gI 0 2 4 7 8 60 c) (sl (a0 gg c)) tr)))
(sq (a5 jB 0 2 4 7 8 c)
(sn
(cd (a7 iQ 0 2 4 7 8 9 49 c) tr tr)
(gr (gn (a7 nQ 0 2 4 7 8 9 10 c) (gx (a7 oS 0 2 4 7 8 9 44 c) (gl (a8 gT 0 2 4 7 8 9 44 48 c)))))))))
(sn
(cd (a4 sD 0 2 4 29 c) (sl (a0 vf c)) tr)
(gr (gn (a3 AL 0 2 4 c) (gx (a4 we 0 2 4 21 c) (gl (a5 pZ 0 2 4 21 28 c))))))))) hp
attribute [simp] n1 n2 n3 n4 n5 n6 n7 n8 n9 aP aU aQ a_ bn bj aZ bu bz bC bE bG bD bZ bY bT bW cj cq cN cV cX dH eh ft fc fM gh fq fp gg gI gv iQ gT oS nQ jB sE vf sD pZ we AL AK
end cF
namespace Gi
abbrev rs:List Nat:=[4]
def n1:N0:=fun _ R _ _ _ h=>
R [(.sc (.int .i64 0))] h
def n2:N0:=fun _ R _ _ _ h=>
R [(.sc (.int .i64 112))] h
def n3:N1:=fun W R N E P lV h=>
aE lV (
n2 W R N E P h) (
n1 W R N E P h)
def n4:N2:=fun W R N E P ol oP h=>
aJ ol (.sc (.bool true)) oP fun t1=>
n3 W R N E P t1 h
def n5:N3:=fun W R N E P x3 x5 ol h=>
bd false ol (
ag (some 1) x3 fun t2=>
ai (some false) (some 1) t2 h fun t3 _=>
ag (some 1) x5 fun t5=>
ai (some false) (some 1) t5 h fun t6 _=>
aa Pg .geq 3 false t3 t6 fun t8=>
n4 W R N E P ol t8 h) (
n4 W R N E P ol ab h)
def n6:N2:=fun W R N E P x3 x5 h=>
ag (some 1) x3 fun t9=>
ai (some false) (some 1) t9 h fun t10 _=>
aa Pg .lss 3 true t10 (.sc (.int .i64 0)) fun t12=>
n5 W R N E P x3 x5 t12 h
def n7:N0:=fun _ R _ _ _ h=>
R [(.sc (.int .i64 110))] h
def n8:N3:=fun W R N E P x3 x5 dn h=>
aE dn (
n7 W R N E P h) (
n6 W R N E P x3 x5 h)
def n9:N3:=fun W R N E P x3 x5 x6 h=>
e_ .not x6 fun t13=>
n8 W R N E P x3 x5 t13 h
def aP:N2:=fun W R N E P x0 x3 h=>
ag (some 0) x3 fun t14=>
ai (some false) (some 1) t14 h fun t15 _=>
fX Pg (some (9,56)) x0 t15 true h fun t17 _=>
cl t17 0 fun t19=>
cl t17 1 fun t20=>
bH (some [.int .i64 0,.int .i64 0]) 2 56 h fun t21 qj=>
aG (some 2) t21 t19 qj W fun Di=>
n9 W R N E P x3 t21 t20 Di
def aU:N2:=fun W R N E P x0 x1 h=>
dF 2 67 x1 h fun t24 vA=>
aP W R N E P x0 t24 vA
theorem aI{x0 x1:AV}{h:AH}{M:WK}{R:RK}(hp:aU (fun id=>M id\/h.next<=id) (aH Pg [.tmp 4] R) (aH Pg [.tmp 4] R) (fun _ _ _=>False) (fun v h=>R (.bV v) h) x0 x1 h):ay Pg 93 [x0,x1] h M R:=
 fin (n:=26) (pl:=[(4,⟨[(none,(fr 0 4)),(some (3,false),(fr 4 5)),(none,(fr 9 1))],false,[],[]⟩)]) (rs:=[.tmp 4]) (L:=rs) (fun c=>(a2 aU 0 1 c)) Tryz.mixed Tryz.func93 (fun c=>
(sq (a2 aU 0 1 c)
(sq (a2 aP 0 3 c)
(sn
(sn
(sl (a0 n1 c))
(sn
(cd (a1 n3 25 c) (sl (a0 n2 c)) tr)
(gr (gn (a2 n6 3 5 c) (gx (a3 n5 3 5 19 c) (gl (a2 n4 19 24 c)))))))
(sq (a3 n9 3 5 6 c)
(cd (a3 n8 3 5 15 c) (sl (a0 n7 c)) tr)))))) hp
attribute [simp] n1 n2 n3 n4 n5 n6 n7 n8 n9 aP aU
end Gi
namespace pD
abbrev rs:List Nat:=[4]
def n1:N1:=fun _ R _ _ _ x4 h=>
R [x4] h
def n2:N2:=fun W R N E P eA ed h=>
aJ eA (.sc (.bool true)) ed fun t1=>
n1 W R N E P t1 h
def n3:N2:=fun W R N E P x1 eA h=>
bd false eA (
aC Pg W 44 [x1] h (fun t2 h3=>
aa Pg .gtr 3 true t2 (.sc (.int .i64 0)) fun t4=>
n2 W R N E P eA t4 h3) P) (
n2 W R N E P eA ab h)
def n4:N3:=fun W R N E P x1 rA fj h=>
aJ rA (.sc (.bool true)) fj fun t5=>
n3 W R N E P x1 t5 h
def n5:N3:=fun W R N E P x1 ap rA h=>
bd false rA (
n4 W R N E P x1 rA ap h) (
n4 W R N E P x1 rA ab h)
def n6:N4:=fun W R N E P x1 ap gE gR h=>
aJ gE (.sc (.bool true)) gR fun t6=>
n5 W R N E P x1 ap t6 h
def n7:N4:=fun W R N E P x1 x8 ap gE h=>
bd false gE (
n6 W R N E P x1 ap gE x8 h) (
n6 W R N E P x1 ap gE ab h)
def n8:N4:=fun W R N E P x1 x6 x8 ap h=>
n7 W R N E P x1 x8 ap x6 h
def n9:N4:=fun W R N E P x0 x1 x6 x8 h=>
bt x0 fun t7=>
ag (some 3) t7 fun t8=>
ai (some false) (some 1) t8 h fun t9 _=>
fX Pg (some (9,122)) t9 x1 true h fun t11 _=>
cl t11 0 fun t13=>
cl t11 1 fun t14=>
n8 W R N E P x1 x6 x8 t14 h
def aP:N3:=fun W R N E P x0 x1 x6 h=>
bt x0 fun t15=>
ag (some 2) t15 fun t16=>
ai (some false) (some 1) t16 h fun t17 _=>
fX Pg (some (9,56)) t17 x1 true h fun t19 _=>
cl t19 0 fun t21=>
cl t19 1 fun t22=>
bH (some [.int .i64 0,.int .i64 0]) 2 56 h fun t23 vB=>
aG (some 2) t23 t21 vB W fun vA=>
n9 W R N E P x0 x1 x6 t22 vA
def aU:N2:=fun W R N E P x0 x1 h=>
bt x0 fun t26=>
ag (some 1) t26 fun t27=>
ai (some false) (some 1) t27 h fun t28 _=>
fX Pg (some (9,56)) t28 x1 true h fun t30 _=>
cl t30 0 fun t32=>
cl t30 1 fun t33=>
bH (some [.int .i64 0,.int .i64 0]) 2 56 h fun t34 rW=>
aG (some 2) t34 t32 rW W fun yz=>
aP W R N E P x0 x1 t33 yz
def aQ:N2:=fun W R N E P x0 x1 h=>
aU W R N E P x0 x1 h
theorem aI{x0 x1:AV}{h:AH}{M:WK}{R:RK}(hp:aQ (fun id=>M id\/h.next<=id) (aH Pg [.tmp 4] R) (aH Pg [.tmp 4] R) (fun _ _ _=>False) (fun v h=>R (.bV v) h) x0 x1 h):ay Pg 113 [x0,x1] h M R:=
 fin (n:=50) (pl:=[(4,⟨[(none,(fr 0 2)),(some (1,false),(fr 2 1)),(none,(fr 3 2)),(some (4,false),(fr 5 1)),(none,(fr 6 2)),(some (7,false),(fr 8 3)),(none,(fr 11 2))],false,[],[]⟩)]) (rs:=[.tmp 4]) (L:=rs) (fun c=>(a2 aQ 0 1 c)) Tryz.mixed Tryz.func113 (fun c=>
(sq (a2 aQ 0 1 c)
(sq (a2 aU 0 1 c)
(sq (a3 aP 0 1 6 c)
(sq (a4 n9 0 1 6 8 c)
(sn
(sm (a1 n1 4 c))
(gr (gn (a4 n8 1 6 8 10 c) (gx (a4 n7 1 8 10 39 c) (gn (a4 n6 1 10 39 40 c) (gx (a3 n5 1 10 42 c) (gn (a3 n4 1 42 43 c) (gx (a2 n3 1 45 c) (gl (a2 n2 45 48 c))))))))))))))) hp
attribute [simp] n1 n2 n3 n4 n5 n6 n7 n8 n9 aP aU aQ
end pD
namespace cP
abbrev rs:List Nat:=[8]
def n1:N0:=fun _ R _ _ _ h=>
R [(.sc (.int .i64 0))] h
def n2:N2:=fun W R _ _ P x0 x5 h=>
ai (some true) (some 6) x5 h fun t1 _=>
bt x0 fun t3=>
ag (some 1) t3 fun t4=>
ai (some false) (some 1) t4 h fun t5 _=>
bt x0 fun t7=>
ag (some 5) t7 fun t8=>
ag (some 0) t8 fun t9=>
aC Pg W 90 [x0,t1,t5,t9,(.sc (.int .i64 64))] h (fun t10 mq=>
R [t10] mq) P
def n3:N2:=fun W R _ _ P x0 x5 h=>
ai (some true) (some 6) x5 h fun t12 _=>
bt x0 fun t14=>
ag (some 2) t14 fun t15=>
ai (some false) (some 1) t15 h fun t16 _=>
bt x0 fun t18=>
ag (some 5) t18 fun t19=>
ag (some 1) t19 fun t20=>
aC Pg W 90 [x0,t12,t16,t20,(.sc (.int .i64 64))] h (fun t21 qj=>
R [t21] qj) P
def n4:N3:=fun W R _ _ P x0 x2 x5 h=>
ai (some true) (some 6) x5 h fun t23 _=>
aC Pg W 91 [x0,t23,x2] h (fun t25 mV=>
R [t25] mV) P
def n5:N0:=fun _ R _ _ _ h=>
R [(.sc (.int .i64 112))] h
def n6:N1:=fun W R N E P lf h=>
aE lf (
n5 W R N E P h) (
n1 W R N E P h)
def n7:N1:=fun W R N E P x5 h=>
ag (some 3) x5 fun t27=>
ai (some false) (some 1) t27 h fun t28 _=>
aa Pg .lss 3 true t28 (.sc (.int .i64 0)) fun t30=>
n6 W R N E P t30 h
def n8:N0:=fun _ R _ _ _ h=>
R [(.sc (.int .i64 112))] h
def n9:N1:=fun W R N E P iN h=>
aE iN (
n8 W R N E P h) (
n1 W R N E P h)
def aP:N2:=fun W R N E P fL eC h=>
aJ fL (.sc (.bool true)) eC fun t31=>
n9 W R N E P t31 h
def aU:N3:=fun W R N E P fL Af eQ h=>
bd false fL (
aJ Af eQ (.sc (.bool false)) fun t32=>
aP W R N E P fL t32 h) (
aP W R N E P fL ab h)
def aQ:N4:=fun W R N E P x5 x9 fL Af h=>
bd true Af (
ag (some 3) x5 fun t33=>
ai (some false) (some 1) t33 h fun t34 _=>
ag (some 1) x9 fun t36=>
ai (some false) (some 1) t36 h fun t37 _=>
aa Pg .shl 3 true (.sc (.int .i64 1)) t37 fun t39=>
aa Pg .geq 3 false t34 t39 fun t40=>
aU W R N E P fL Af t40 h) (
aU W R N E P fL Af ab h)
def a_:N3:=fun W R N E P x5 x9 fL h=>
bd false fL (
ag (some 1) x9 fun t41=>
ai (some false) (some 1) t41 h fun t42 _=>
aa Pg .lss 3 true t42 (.sc (.int .i64 63)) fun t44=>
aQ W R N E P x5 x9 fL t44 h) (
aQ W R N E P x5 x9 fL ab h)
def bn:N2:=fun W R N E P x5 x9 h=>
ag (some 3) x5 fun t45=>
ai (some false) (some 1) t45 h fun t46 _=>
aa Pg .lss 3 true t46 (.sc (.int .i64 0)) fun t48=>
a_ W R N E P x5 x9 t48 h
def bj:N0:=fun _ R _ _ _ h=>
R [(.sc (.int .i64 110))] h
def aZ:N3:=fun W R N E P x5 x9 Ah h=>
aE Ah (
bj W R N E P h) (
bn W R N E P x5 x9 h)
def bg:N3:=fun W R N E P x5 x9 ap h=>
e_ .not ap fun t49=>
aZ W R N E P x5 x9 t49 h
def bu:N2:=fun W R N E P x0 x5 h=>
bt x0 fun t50=>
ag (some 2) t50 fun t51=>
ai (some false) (some 1) t51 h fun t52 _=>
ag (some 1) x5 fun t54=>
ai (some false) (some 1) t54 h fun t55 _=>
fX Pg (some (9,56)) t52 t55 true h fun t57 _=>
cl t57 0 fun t59=>
cl t57 1 fun t60=>
bH (some [.int .i64 0,.int .i64 0]) 2 56 h fun t61 wM=>
aG (some 2) t61 t59 wM W fun Fm=>
bg W R N E P x5 t61 t60 Fm
def bz:N3:=fun W R _ _ P x0 x3 x5 h=>
ai (some true) (some 6) x5 h fun t64 _=>
aC Pg W 92 [x0,t64,x3] h (fun t66 Ll=>
R [t66] Ll) P
def bC:N2:=fun W R _ _ P x0 x5 h=>
bt x0 fun t68=>
ag (some 2) t68 fun t69=>
ai (some false) (some 1) t69 h fun t70 _=>
ag (some 2) x5 fun t72=>
ai (some false) (some 1) t72 h fun t73 _=>
bM (some (2,none)) t73 (.sc (.int .i64 1)) fun t75=>
ai (some true) (some 2) t75 h fun t76 _=>
aC Pg W 93 [t70,t76] h (fun t78 UW=>
R [t78] UW) P
def bE:N1:=fun _ R _ _ _ aA h=>
R [aA] h
def bG:N4:=fun W R N E P x0 x5 aA Zw h=>
aE Zw (
bE W R N E P aA h) (
bC W R N E P x0 x5 h)
def bD:N3:=fun W R N E P x0 x5 aA h=>
aa Pg .neq 28 true aA (.sc (.int .i64 0)) fun t80=>
bG W R N E P x0 x5 aA t80 h
def bZ:N2:=fun W R N E P x0 x5 h=>
bt x0 fun t81=>
ag (some 1) t81 fun t82=>
ai (some false) (some 1) t82 h fun t83 _=>
ag (some 2) x5 fun t85=>
ai (some false) (some 1) t85 h fun t86 _=>
bM (some (2,none)) t86 (.sc (.int .i64 0)) fun t88=>
ai (some true) (some 2) t88 h fun t89 _=>
aC Pg W 93 [t83,t89] h (fun t91 Lf=>
bD W R N E P x0 x5 t91 Lf) P
def bY:N0:=fun _ R _ _ _ h=>
R [(.sc (.int .i64 111))] h
def bT:N3:=fun W R N E P x0 x5 Aa h=>
aE Aa (
bY W R N E P h) (
bZ W R N E P x0 x5 h)
def bW:N2:=fun W R N E P x0 x5 h=>
ag (some 2) x5 fun t93=>
ai (some false) (some 1) t93 h fun t94 _=>
(aW t94=false)/\bL t94 fun t96=>
aa Pg .neq 3 true t96 (.sc (.int .i64 2)) fun t97=>
bT W R N E P x0 x5 t97 h
def cj:N2:=fun W R _ _ P x0 x5 h=>
bt x0 fun t98=>
ag (some 1) t98 fun t99=>
ai (some false) (some 1) t99 h fun t100 _=>
ag (some 2) x5 fun t102=>
ai (some false) (some 1) t102 h fun t103 _=>
bM (some (2,none)) t103 (.sc (.int .i64 0)) fun t105=>
ai (some true) (some 2) t105 h fun t106 _=>
aC Pg W 93 [t100,t106] h (fun t108 Ns=>
R [t108] Ns) P
def cq:N0:=fun _ R _ _ _ h=>
R [(.sc (.int .i64 111))] h
def cN:N3:=fun W R N E P x0 x5 yN h=>
aE yN (
cq W R N E P h) (
cj W R N E P x0 x5 h)
def cV:N2:=fun W R N E P x0 x5 h=>
ag (some 2) x5 fun t110=>
ai (some false) (some 1) t110 h fun t111 _=>
(aW t111=false)/\bL t111 fun t113=>
aa Pg .neq 3 true t113 (.sc (.int .i64 1)) fun t114=>
cN W R N E P x0 x5 t114 h
def cX:N3:=fun W R N E P x0 x5 Zq h=>
aE Zq (
cV W R N E P x0 x5 h) (
n1 W R N E P h)
def dH:N3:=fun W R N E P x0 x5 bc h=>
aa Pg .eql 9 true bc (.sc (.string ⟨#[114,101,115,101,116]⟩)) fun t115=>
cX W R N E P x0 x5 t115 h
def eh:N4:=fun W R N E P x0 x5 bc Ad h=>
aE Ad (
bW W R N E P x0 x5 h) (
dH W R N E P x0 x5 bc h)
def ft:N3:=fun W R N E P x0 x5 bc h=>
aa Pg .eql 9 true bc (.sc (.string ⟨#[109,101,97,115,117,114,101]⟩)) fun t116=>
eh W R N E P x0 x5 bc t116 h
def fc:N5:=fun W R N E P x0 x3 x5 bc pR h=>
aE pR (
bz W R N E P x0 x3 x5 h) (
ft W R N E P x0 x5 bc h)
def fQ:N4:=fun W R N E P x0 x3 x5 bc h=>
aa Pg .eql 9 true bc (.sc (.string ⟨#[117,115,101]⟩)) fun t117=>
fc W R N E P x0 x3 x5 bc t117 h
def fM:N5:=fun W R N E P x0 x3 x5 bc D4 h=>
aE D4 (
bu W R N E P x0 x5 h) (
fQ W R N E P x0 x3 x5 bc h)
def gh:N4:=fun W R N E P x0 x3 x5 bc h=>
aa Pg .eql 9 true bc (.sc (.string ⟨#[105,102]⟩)) fun t118=>
fM W R N E P x0 x3 x5 bc t118 h
def fq:N5:=fun W R N E P x0 x3 x5 bc rz h=>
aE rz (
n7 W R N E P x5 h) (
gh W R N E P x0 x3 x5 bc h)
def fp:N4:=fun W R N E P x0 x3 x5 bc h=>
aa Pg .eql 9 true bc (.sc (.string ⟨#[114,101,112,101,97,116]⟩)) fun t119=>
fq W R N E P x0 x3 x5 bc t119 h
def gg:N6:=fun W R N E P x0 x2 x3 x5 bc gR h=>
aE gR (
n4 W R N E P x0 x2 x5 h) (
fp W R N E P x0 x3 x5 bc h)
def gI:N5:=fun W R N E P x0 x2 x3 x5 bc h=>
aa Pg .eql 9 true bc (.sc (.string ⟨#[103,97,116,101]⟩)) fun t120=>
gg W R N E P x0 x2 x3 x5 bc t120 h
def gv:N6:=fun W R N E P x0 x2 x3 x5 bc gS h=>
aE gS (
n3 W R N E P x0 x5 h) (
gI W R N E P x0 x2 x3 x5 bc h)
def iQ:N5:=fun W R N E P x0 x2 x3 x5 bc h=>
aa Pg .eql 9 true bc (.sc (.string ⟨#[98,105,116,115]⟩)) fun t121=>
gv W R N E P x0 x2 x3 x5 bc t121 h
def gT:N6:=fun W R N E P x0 x2 x3 x5 bc cg h=>
aE cg (
n2 W R N E P x0 x5 h) (
iQ W R N E P x0 x2 x3 x5 bc h)
def oS:N5:=fun W R N E P x0 x2 x3 x5 bc h=>
aa Pg .eql 9 true bc (.sc (.string ⟨#[113,117,98,105,116,115]⟩)) fun t122=>
gT W R N E P x0 x2 x3 x5 bc t122 h
def nQ:N4:=fun W R N E P x0 x2 x3 x5 h=>
ag (some 0) x5 fun t123=>
ai (some false) (some 1) t123 h fun t124 _=>
oS W R N E P x0 x2 x3 x5 t124 h
def jB:N4:=fun W R N E P x0 x1 x2 x3 h=>
dF 6 46 x1 h fun t126 abj=>
nQ W R N E P x0 x2 x3 t126 abj
theorem aI{x0 x1 x2 x3:AV}{h:AH}{M:WK}{R:RK}(hp:jB (fun id=>M id\/h.next<=id) (aH Pg [.tmp 8] R) (aH Pg [.tmp 8] R) (fun _ _ _=>False) (fun v h=>R (.bV v) h) x0 x1 x2 x3 h):ay Pg 67 [x0,x1,x2,x3] h M R:=
 fin (n:=129) (pl:=[(3,⟨[(none,(fr 0 12))],false,[],[]⟩),(5,⟨[(none,(fr 0 12))],false,[],[]⟩),(12,⟨[(none,(fr 0 13))],false,[],[]⟩),(15,⟨[(none,(fr 0 4)),(some (3,false),(fr 4 4)),(some (7,true),(fr 8 6)),(some (3,false),(fr 14 1)),(none,(fr 15 1))],false,[],[]⟩),(22,⟨[(none,(fr 0 10))],false,[],[]⟩),(25,⟨[(none,(fr 0 10))],false,[],[]⟩),(29,⟨[(none,(fr 0 10))],false,[],[]⟩)]) (rs:=[.tmp 8]) (L:=rs) (fun c=>(a4 jB 0 1 2 3 c)) Tryz.mixed Tryz.func67 (fun c=>
(sq (a4 jB 0 1 2 3 c)
(sn
(sl (a0 n1 c))
(sq (a4 nQ 0 2 3 5 c)
(bk 0 (sq (a5 oS 0 2 3 5 13 c)
(cd (a6 gT 0 2 3 5 13 14 c) (sl (a2 n2 0 5 c)) (sq (a5 iQ 0 2 3 5 13 c)
(cd (a6 gv 0 2 3 5 13 27 c) (sl (a2 n3 0 5 c)) (sq (a5 gI 0 2 3 5 13 c)
(cd (a6 gg 0 2 3 5 13 40 c) (sl (a3 n4 0 2 5 c)) (sq (a4 fp 0 3 5 13 c)
(cd (a5 fq 0 3 5 13 46 c) (sq (a1 n7 5 c)
(cd (a1 n6 50 c) (sl (a0 n5 c)) tr)) (sq (a4 gh 0 3 5 13 c)
(cd (a5 fM 0 3 5 13 51 c) (sq (a2 bu 0 5 c)
(sn
(sn
(cd (a1 n9 80 c) (sl (a0 n8 c)) tr)
(gr (gn (a2 bn 5 9 c) (gx (a3 a_ 5 9 68 c) (gx (a4 aQ 5 9 68 72 c) (gx (a3 aU 68 72 78 c) (gl (a2 aP 68 79 c))))))))
(sq (a3 bg 5 9 10 c)
(cd (a3 aZ 5 9 64 c) (sl (a0 bj c)) tr)))) (sq (a4 fQ 0 3 5 13 c)
(cd (a5 fc 0 3 5 13 81 c) (sl (a3 bz 0 3 5 c)) (sq (a3 ft 0 5 13 c)
(cd (a4 eh 0 5 13 87 c) (sn
(sn
(sl (a2 bC 0 5 c))
(sq (a2 bZ 0 5 c)
(sq (a3 bD 0 5 11 c)
(cd (a4 bG 0 5 11 103 c) (sl (a1 bE 11 c)) tr))))
(sq (a2 bW 0 5 c)
(cd (a3 bT 0 5 92 c) (sl (a0 bY c)) tr))) (sq (a3 dH 0 5 13 c)
(cd (a3 cX 0 5 114 c) (sn
(sl (a2 cj 0 5 c))
(sq (a2 cV 0 5 c)
(cd (a3 cN 0 5 119 c) (sl (a0 cq c)) tr))) tr))))))))))))))))))))) hp
attribute [simp] n1 n2 n3 n4 n5 n6 n7 n8 n9 aP aU aQ a_ bn bj aZ bg bu bz bC bE bG bD bZ bY bT bW cj cq cN cV cX dH eh ft fc fQ fM gh fq fp gg gI gv iQ gT oS nQ jB
end cP
end
section
open Go.Ab
namespace fJ
abbrev rs:List Nat:=[10]
def n1:N0:=fun _ R _ _ _ h=>
R [(.sc (.int .i64 0))] h
def n2:N6:=fun _ _ N _ _ x0 x2 x3 x4 aA aS h=>
ag (some 4) aS fun t1=>
ai (some false) (some 1) t1 h fun t2 _=>
aa Pg .add 3 true (.sc (.int .i64 1)) t2 fun t4=>
aa Pg .add 3 false aA t4 fun t5=>
N [x0,x2,x3,x4,t5] h
def n3:N7:=fun W R N E P x0 x2 x3 x4 aA aS jy h=>
bt jy fun t6=>
ag (some 2) t6 fun t7=>
ai (some false) (some 1) t7 h fun t8 _=>
bt jy fun t10=>
ag (some 3) t10 fun t11=>
ai (some false) (some 1) t11 h fun t12 _=>
aC Pg sB 68 [x0,t8,t12] h (fun t14 vD=>
bt jy fun t16=>
ag (some 5) t16 fun t17=>
aG (some 1) t17 t14 vD W fun sS=>
n2 W R N E P x0 x2 x3 x4 aA aS sS) P
def n4:N7:=fun W R N E P x0 x2 x3 x4 aA aS jy h=>
bt jy fun t19=>
ag (some 6) t19 fun t20=>
aG (some 1) t20 (.sc (.bool true)) h W fun sR=>
n3 W R N E P x0 x2 x3 x4 aA aS jy sR
def n5:N6:=fun W R N E P x0 x2 x3 x4 aA aS h=>
bt x0 fun t22=>
ag (some 3) t22 fun t23=>
ai (some false) (some 1) t23 h fun t24 _=>
ag (some 1) aS fun t26=>
ai (some false) (some 1) t26 h fun t27 _=>
fX Pg (some (9,122)) t24 t27 false h fun t29 _=>
n4 W R N E P x0 x2 x3 x4 aA aS t29 h
def n6:N7:=fun W R N E P x0 x2 x3 x4 aA aS JA h=>
aE JA (
n5 W R N E P x0 x2 x3 x4 aA aS h) (
n2 W R N E P x0 x2 x3 x4 aA aS h)
def n7:N6:=fun W R N E P x0 x2 x3 x4 aA aS h=>
ag (some 0) aS fun t31=>
ai (some false) (some 1) t31 h fun t32 _=>
aa Pg .eql 9 true t32 (.sc (.string ⟨#[103,97,116,101]⟩)) fun t34=>
n6 W R N E P x0 x2 x3 x4 aA aS t34 h
def n8:N1:=fun _ R _ _ _ cR h=>
R [cR] h
def n9:N8:=fun W R N E P x0 x2 x3 x4 aA aS cR eQ h=>
aE eQ (
n8 W R N E P cR h) (
n7 W R N E P x0 x2 x3 x4 aA aS h)
def aP:N7:=fun W R N E P x0 x2 x3 x4 aA aS cR h=>
aa Pg .neq 28 true cR (.sc (.int .i64 0)) fun t35=>
n9 W R N E P x0 x2 x3 x4 aA aS cR t35 h
def aU:N7:=fun W R N E P x0 x2 x3 x4 aA aS dn h=>
aa Pg .add 3 true aA (.sc (.int .i64 1)) fun t36=>
aa Pg .add 3 true aA (.sc (.int .i64 1)) fun t37=>
ag (some 4) aS fun t38=>
ai (some false) (some 1) t38 h fun t39 _=>
aa Pg .add 3 false t37 t39 fun t41=>
aa Pg .add 3 true x3 (.sc (.int .i64 1)) fun t42=>
aC Pg W 37 [x0,t36,t41,t42,dn] h (fun t43 qL=>
aP W R N E P x0 x2 x3 x4 aA aS t43 qL) P
def aQ:N8:=fun W R N E P x0 x2 x3 x4 aA aS dn lU h=>
aE lU (
bt x0 fun t45=>
ag (some 3) t45 fun t46=>
ai (some false) (some 1) t46 h fun t47 _=>
ag (some 1) aS fun t49=>
ai (some false) (some 1) t49 h fun t50 _=>
fX Pg (some (9,122)) t47 t50 false h fun t52 _=>
aU W R N E P x0 x2 x3 x4 aA aS t52 h) (
aU W R N E P x0 x2 x3 x4 aA aS dn h)
def a_:N7:=fun W R N E P x0 x2 x3 x4 aA aS dn h=>
ag (some 0) aS fun t54=>
ai (some false) (some 1) t54 h fun t55 _=>
aa Pg .eql 9 true t55 (.sc (.string ⟨#[103,97,116,101]⟩)) fun t57=>
aQ W R N E P x0 x2 x3 x4 aA aS dn t57 h
def bn:N6:=fun W R N E P x0 x2 x3 x4 aA aS h=>
a_ W R N E P x0 x2 x3 x4 aA aS x4 h
def bj:N1:=fun _ R _ _ _ cg h=>
R [cg] h
def aZ:N8:=fun W R N E P x0 x2 x3 x4 aA aS cg kQ h=>
aE kQ (
bj W R N E P cg h) (
bn W R N E P x0 x2 x3 x4 aA aS h)
def bg:N7:=fun W R N E P x0 x2 x3 x4 aA aS cg h=>
aa Pg .neq 28 true cg (.sc (.int .i64 0)) fun t58=>
aZ W R N E P x0 x2 x3 x4 aA aS cg t58 h
def bu:N6:=fun W R N E P x0 x2 x3 x4 aA aS h=>
ai (some true) (some 6) aS h fun t59 _=>
aC Pg W 67 [x0,t59,aA,x4] h (fun t61 wM=>
bg W R N E P x0 x2 x3 x4 aA aS t61 wM) P
def bz:N1:=fun _ R _ _ _ bc h=>
R [bc] h
def bC:N8:=fun W R N E P x0 x2 x3 x4 aA aS bc fV h=>
aE fV (
bz W R N E P bc h) (
bu W R N E P x0 x2 x3 x4 aA aS h)
def bE:N7:=fun W R N E P x0 x2 x3 x4 aA aS bc h=>
aa Pg .neq 28 true bc (.sc (.int .i64 0)) fun t63=>
bC W R N E P x0 x2 x3 x4 aA aS bc t63 h
def bG:N6:=fun W R N E P x0 x2 x3 x4 aA aS h=>
ai (some true) (some 6) aS h fun t64 _=>
aa Pg .sub 3 false x2 aA fun t66=>
aa Pg .sub 3 true t66 (.sc (.int .i64 1)) fun t67=>
aC Pg W 66 [x0,t64,t67,x3,x4] h (fun t68 Lk=>
bE W R N E P x0 x2 x3 x4 aA aS t68 Lk) P
def bD:N6:=fun W R N E P x0 x2 x3 x4 aA aS h=>
ag (some 5) aS fun t70=>
ai (some false) (some 1) t70 h fun t71 _=>
bt x0 fun t73=>
ag (some 8) t73 fun t74=>
aG (some 1) t74 t71 h W fun UX=>
bG W R N E P x0 x2 x3 x4 aA aS UX
def bZ:N5:=fun W R N E P x0 x2 x3 x4 aA h=>
bt x0 fun t76=>
ag (some 0) t76 fun t77=>
ai (some false) (some 1) t77 h fun t78 _=>
bM (some (6,none)) t78 aA fun t80=>
ai (some true) (some 6) t80 h fun t81 _=>
bH (some [.string ⟨#[]⟩,.string ⟨#[]⟩,.slice none 0 0,.int .i64 0,.int .i64 0,.int .i64 0]) 6 46 h fun t83 Bg=>
aG (some 6) t83 t81 Bg W fun Bf=>
bD W R N E P x0 x2 x3 x4 aA t83 Bf
def bY:N6:=fun W R N E P x0 x2 x3 x4 aA lh h=>
aE lh (
bZ W R N E P x0 x2 x3 x4 aA h) (
E 0 [] h)
def bT:N5:=fun W R N E P x0 x2 x3 x4 aA h=>
aa Pg .lss 3 false aA x2 fun t86=>
bY W R N E P x0 x2 x3 x4 aA t86 h
def cn:GK:=fun W R N E P N' vs h=>bT W R N' (fun(i:Nat) (vs:List AV) (h:AH)=>if i=0 then n1 W R N E P h else E i vs h) P (vs.getD 0 ab) (vs.getD 1 ab) (vs.getD 2 ab) (vs.getD 3 ab) (vs.getD 4 ab) h
def bW:N5:=fun W R N E P x0 x2 x3 x4 aA h=>
da (cn W R N E P) [x0,x2,x3,x4,aA] h
def cj:N5:=fun W R N E P x0 x1 x2 x3 x4 h=>
bW W R N E P x0 x2 x3 x4 x1 h
def cq:N5:=fun W R N E P x0 x1 x2 x3 x4 h=>
cj W R N E P x0 x1 x2 x3 x4 h
theorem aI{x0 x1 x2 x3 x4:AV}{h:AH}{M:WK}{R:RK}(hp:cq (fun id=>M id\/h.next<=id) (aH Pg [.tmp 10] R) (aH Pg [.tmp 10] R) (fun _ _ _=>False) (fun v h=>R (.bV v) h) x0 x1 x2 x3 x4 h):ay Pg 37 [x0,x1,x2,x3,x4] h M R:=
 fin (n:=111) (pl:=[(13,⟨[(none,(fr 0 8))],false,[],[]⟩),(18,⟨[(none,(fr 0 8))],false,[],[]⟩),(20,⟨[(none,(fr 0 14))],false,[],[10]⟩)]) (rs:=[.tmp 10]) (L:=rs) (fun c=>(a5 cq 0 1 2 3 4 c)) Tryz.mixed Tryz.func37 (fun c=>
(sq (a5 cq 0 1 2 3 4 c)
(sn
(sl (a0 n1 c))
(sq (a5 cj 0 1 2 3 4 c)
(bk 0 (lp [0,2,3,4,11] rs [(0,[])] (a5 bW 0 2 3 4 11 c) cn (fun i vs h=>if i=0 then n1 c.W c.R c.N c.E c.P h else c.E i vs h) (.b (.t .o)) fun c=>
(sn
(bk 1 (sq (a5 bZ 0 2 3 4 11 c)
(sq (a6 bD 0 2 3 4 11 12 c)
(sn
(sn
(sq (a6 bn 0 2 3 4 11 12 c)
(sn
(sn
(sn
(sm (a6 n2 0 2 3 4 11 12 c))
(sq (a6 n7 0 2 3 4 11 12 c)
(cd (a7 n6 0 2 3 4 11 12 82 c) (sq (a6 n5 0 2 3 4 11 12 c)
(sq (a7 n4 0 2 3 4 11 12 17 c)
(gr (gl (a7 n3 0 2 3 4 11 12 17 c))))) tr)))
(sq (a7 aU 0 2 3 4 11 12 15 c)
(sq (a7 aP 0 2 3 4 11 12 16 c)
(cd (a8 n9 0 2 3 4 11 12 16 78 c) (sl (a1 n8 16 c)) tr))))
(sq (a7 a_ 0 2 3 4 11 12 15 c)
(cd (a8 aQ 0 2 3 4 11 12 15 57 c) tr tr))))
(sq (a6 bu 0 2 3 4 11 12 c)
(sq (a7 bg 0 2 3 4 11 12 14 c)
(cd (a8 aZ 0 2 3 4 11 12 14 52 c) (sl (a1 bj 14 c)) tr))))
(sq (a6 bG 0 2 3 4 11 12 c)
(sq (a7 bE 0 2 3 4 11 12 13 c)
(cd (a8 bC 0 2 3 4 11 12 13 44 c) (sl (a1 bz 13 c)) tr)))))))
(sq (a5 bT 0 2 3 4 11 c)
(cd (a6 bY 0 2 3 4 11 21 c) tr tr))))))))) hp
attribute [simp] n1 n2 n3 n4 n5 n6 n7 n8 n9 aP aU aQ a_ bn bj aZ bg bu bz bC bE bG bD bZ bY bT cj cq
end fJ
namespace kb
abbrev rs:List Nat:=[6]
def n1:N1:=fun _ R _ _ _ x7 h=>
R [x7] h
def n2:N4:=fun _ _ N _ _ x0 x2 x7 x8 h=>
bt x0 fun t1=>
ag (some 0) t1 fun t2=>
ai (some false) (some 1) t2 h fun t3 _=>
bM (some (6,none)) t3 x8 fun t5=>
ag (some 4) t5 fun t6=>
ai (some false) (some 1) t6 h fun t7 _=>
aa Pg .add 3 true (.sc (.int .i64 1)) t7 fun t9=>
aa Pg .add 3 false x8 t9 fun t10=>
N [x0,x2,x7,t10] h
def n3:N5:=fun W R N E P x0 x2 x7 x8 ap h=>
aa Pg .add 3 false x7 ap fun t11=>
vd true t11 (.sc (.int .i64 4097)) fun t12=>
n2 W R N E P x0 x2 t12 x8 h
def n4:N7:=fun W R N E P x0 x2 x7 x8 x9 ap ed h=>
aE ed (
ag (some 3) x9 fun t13=>
ai (some false) (some 1) t13 h fun t14 _=>
vd true t14 (.sc (.int .i64 4097)) fun t16=>
aa Pg .mul 3 false t16 ap fun t17=>
n3 W R N E P x0 x2 x7 x8 t17 h) (
n3 W R N E P x0 x2 x7 x8 ap h)
def n5:N6:=fun W R N E P x0 x2 x7 x8 x9 ap h=>
aa Pg .gtr 3 true ap (.sc (.int .i64 0)) fun t18=>
n4 W R N E P x0 x2 x7 x8 x9 ap t18 h
def n6:N5:=fun W R N E P x0 x2 x7 x8 x9 h=>
aa Pg .add 3 true x8 (.sc (.int .i64 1)) fun t19=>
aa Pg .add 3 true x8 (.sc (.int .i64 1)) fun t20=>
ag (some 4) x9 fun t21=>
ai (some false) (some 1) t21 h fun t22 _=>
aa Pg .add 3 false t20 t22 fun t24=>
aC Pg W 68 [x0,t19,t24] h (fun t25 mV=>
n5 W R N E P x0 x2 x7 x8 x9 t25 mV) P
def n7:N7:=fun W R N E P x0 x2 x7 x8 ap aA Ah h=>
aE Ah (
bt aA fun t27=>
ag (some 5) t27 fun t28=>
ai (some false) (some 1) t28 h fun t29 _=>
n3 W R N E P x0 x2 x7 x8 t29 h) (
n3 W R N E P x0 x2 x7 x8 ap h)
def n8:N7:=fun W R N E P x0 x2 x7 x8 ap aA aS h=>
n7 W R N E P x0 x2 x7 x8 ap aA aS h
def n9:N6:=fun W R N E P x0 x2 x7 x8 x9 ap h=>
bt x0 fun t31=>
ag (some 3) t31 fun t32=>
ai (some false) (some 1) t32 h fun t33 _=>
ag (some 1) x9 fun t35=>
ai (some false) (some 1) t35 h fun t36 _=>
fX Pg (some (9,122)) t33 t36 true h fun t38 _=>
cl t38 0 fun t40=>
cl t38 1 fun t41=>
n8 W R N E P x0 x2 x7 x8 ap t40 t41 h
def aP:N7:=fun W R N E P x0 x2 x7 x8 x9 ap eL h=>
aE eL (
n6 W R N E P x0 x2 x7 x8 x9 h) (
n9 W R N E P x0 x2 x7 x8 x9 ap h)
def aU:N6:=fun W R N E P x0 x2 x7 x8 x9 ap h=>
ag (some 0) x9 fun t42=>
ai (some false) (some 1) t42 h fun t43 _=>
aa Pg .eql 9 true t43 (.sc (.string ⟨#[114,101,112,101,97,116]⟩)) fun t45=>
aP W R N E P x0 x2 x7 x8 x9 ap t45 h
def aQ:N5:=fun W R N E P x0 x2 x7 x8 x9 h=>
aU W R N E P x0 x2 x7 x8 x9 (.sc (.int .i64 1)) h
def a_:N4:=fun W R N E P x0 x2 x7 x8 h=>
bt x0 fun t46=>
ag (some 0) t46 fun t47=>
ai (some false) (some 1) t47 h fun t48 _=>
bM (some (6,none)) t48 x8 fun t50=>
ai (some true) (some 6) t50 h fun t51 _=>
bH (some [.string ⟨#[]⟩,.string ⟨#[]⟩,.slice none 0 0,.int .i64 0,.int .i64 0,.int .i64 0]) 6 46 h fun t53 Dh=>
aG (some 6) t53 t51 Dh W fun Bh=>
aQ W R N E P x0 x2 x7 x8 t53 Bh
def bn:N5:=fun W R N E P x0 x2 x7 x8 cR h=>
aE cR (
a_ W R N E P x0 x2 x7 x8 h) (
E 0 [x7] h)
def bj:N4:=fun W R N E P x0 x2 x7 x8 h=>
aa Pg .lss 3 false x8 x2 fun t56=>
bn W R N E P x0 x2 x7 x8 t56 h
def cn:GK:=fun W R N E P N' vs h=>bj W R N' (fun(i:Nat) (vs:List AV) (h:AH)=>if i=0 then n1 W R N E P (vs.getD 0 ab) h else E i vs h) P (vs.getD 0 ab) (vs.getD 1 ab) (vs.getD 2 ab) (vs.getD 3 ab) h
def aZ:N4:=fun W R N E P x0 x2 x7 x8 h=>
da (cn W R N E P) [x0,x2,x7,x8] h
def bg:N4:=fun W R N E P x0 x1 x2 x7 h=>
aZ W R N E P x0 x2 x7 x1 h
def bu:N3:=fun W R N E P x0 x1 x2 h=>
bg W R N E P x0 x1 x2 (.sc (.int .i64 0)) h
def bz:N3:=fun W R N E P x0 x1 x2 h=>
bu W R N E P x0 x1 x2 h
theorem aI{x0 x1 x2:AV}{h:AH}{M:WK}{R:RK}(hp:bz (fun id=>M id\/h.next<=id) (aH Pg [.tmp 6] R) (aH Pg [.tmp 6] R) (fun _ _ _=>False) (fun v h=>R (.bV v) h) x0 x1 x2 h):ay Pg 68 [x0,x1,x2] h M R:=
 fin (n:=74) (pl:=[(11,⟨[(none,(fr 0 12))],false,[],[]⟩)]) (rs:=[.tmp 6]) (L:=rs) (fun c=>(a3 bz 0 1 2 c)) Tryz.mixed Tryz.func68 (fun c=>
(sq (a3 bz 0 1 2 c)
(sq (a3 bu 0 1 2 c)
(sn
(sl (a1 n1 7 c))
(sq (a4 bg 0 1 2 7 c)
(bk 0 (lp [0,2,7,8] rs [(0,[7])] (a4 aZ 0 2 7 8 c) cn (fun i vs h=>if i=0 then n1 c.W c.R c.N c.E c.P (vs.getD 0 ab) h else c.E i vs h) (.b (.t .o)) fun c=>
(sn
(sn
(sm (a4 n2 0 2 7 8 c))
(bk 1 (sq (a4 a_ 0 2 7 8 c)
(sq (a5 aQ 0 2 7 8 9 c)
(sn
(sm (a5 n3 0 2 7 8 10 c))
(sq (a6 aU 0 2 7 8 9 10 c)
(cd (a7 aP 0 2 7 8 9 10 37 c) (sq (a5 n6 0 2 7 8 9 c)
(sq (a6 n5 0 2 7 8 9 10 c)
(cd (a7 n4 0 2 7 8 9 10 48 c) tr tr))) (sq (a6 n9 0 2 7 8 9 10 c)
(sq (a7 n8 0 2 7 8 10 11 12 c)
(cd (a7 n7 0 2 7 8 10 11 64 c) tr tr))))))))))
(sq (a4 bj 0 2 7 8 c)
(cd (a5 bn 0 2 7 8 16 c) tr tr)))))))))) hp
attribute [simp] n1 n2 n3 n4 n5 n6 n7 n8 n9 aP aU aQ a_ bn bj bg bu bz
end kb
namespace lS
abbrev rs:List Nat:=[10]
def n1:N5:=fun W R _ _ P x0 x4 x8 aA bc h=>
bt aA fun t1=>
ag (some 2) t1 fun t2=>
ai (some false) (some 1) t2 h fun t3 _=>
bt aA fun t5=>
ag (some 3) t5 fun t6=>
ai (some false) (some 1) t6 h fun t7 _=>
ai (some true) (some 3) x8 h fun t9 _=>
aC Pg W 94 [x0,t3,t7,bc,t9,x4] h (fun t11 pb=>
R [t11] pb) P
def n2:N9:=fun _ _ N _ _ x0 x2 x4 x8 aA bc fj fV eA h=>
aa Pg .add 3 true eA (.sc (.int .i64 1)) fun t13=>
N [x0,x2,x4,x8,aA,bc,fj,fV,t13] h
def n3:Gh:=fun W R N E P x0 x2 x4 x8 aA bc cg dn fj fV eA h=>
bM (some (1,none)) x2 cg fun t14=>
ai (some false) (some 1) t14 h fun t15 _=>
dP Pg (some (9,3)) bc dn t15 h W fun sT=>
n2 W R N E P x0 x2 x4 x8 aA bc fj fV eA sT
def n4:N9:=fun W R N E P x0 x2 x4 x8 aA bc fj fV eA h=>
bM (some (1,none)) fj eA fun t18=>
ai (some false) (some 1) t18 h fun t19 _=>
n3 W R N E P x0 x2 x4 x8 aA bc eA t19 fj fV eA h
def n5:ua:=fun W R N E P x0 x2 x4 x8 aA bc fj fV eA rz h=>
aE rz (
n4 W R N E P x0 x2 x4 x8 aA bc fj fV eA h) (
E 0 [x0,x4,x8,aA,bc] h)
def n6:N9:=fun W R N E P x0 x2 x4 x8 aA bc fj fV eA h=>
aa Pg .lss 3 false eA fV fun t21=>
n5 W R N E P x0 x2 x4 x8 aA bc fj fV eA t21 h
def cn:GK:=fun W R N E P N' vs h=>n6 W R N' (fun(i:Nat) (vs:List AV) (h:AH)=>if i=0 then n1 W R N E P (vs.getD 0 ab) (vs.getD 1 ab) (vs.getD 2 ab) (vs.getD 3 ab) (vs.getD 4 ab) h else E i vs h) P (vs.getD 0 ab) (vs.getD 1 ab) (vs.getD 2 ab) (vs.getD 3 ab) (vs.getD 4 ab) (vs.getD 5 ab) (vs.getD 6 ab) (vs.getD 7 ab) (vs.getD 8 ab) h
def n7:N9:=fun W R N E P x0 x2 x4 x8 aA bc fj fV eA h=>
da (cn W R N E P) [x0,x2,x4,x8,aA,bc,fj,fV,eA] h
def n8:N6:=fun W R N E P x0 x2 x4 x8 aA bc h=>
bt aA fun t22=>
ag (some 1) t22 fun t23=>
ai (some false) (some 1) t23 h fun t24 _=>
(aW t24=false)/\bL t24 fun t26=>
n7 W R N E P x0 x2 x4 x8 aA bc t24 t26 (.sc (.int .i64 0)) h
def n9:N5:=fun W R N E P x0 x2 x4 x8 aA h=>
qD 157 h fun t27 vy=>
n8 W R N E P x0 x2 x4 x8 aA t27 vy
def aP:N0:=fun _ R _ _ _ h=>
R [(.sc (.bool true))] h
def aU:N6:=fun W R N E P x0 x2 x4 x8 aA eK h=>
aE eK (
aP W R N E P h) (
n9 W R N E P x0 x2 x4 x8 aA h)
def aQ:N5:=fun W R N E P x0 x2 x4 x8 aA h=>
bt aA fun t29=>
ag (some 5) t29 fun t30=>
ai (some false) (some 1) t30 h fun t31 _=>
aa Pg .eql 3 true t31 (.sc (.int .i64 0)) fun t33=>
aU W R N E P x0 x2 x4 x8 aA t33 h
def a_:N5:=fun W R _ _ P x0 x1 x2 x4 x8 h=>
ck (some ([.int .i64 0,.string ⟨#[]⟩,.slice none 0 0,.int .i64 0,.bool false,.int .u64 0,.int .u64 0],.inl [(0,1),(1,1),(2,1),(3,1),(4,1),(5,1),(6,1)])) [(0,(.sc (.int .i64 1))),(1,x1),(2,x2)] fun t34=>
ai (some true) (some 3) x8 h fun t35 _=>
aC Pg W 71 [x0,t34,t35,x4] h (fun t37 Hu=>
R [t37] Hu) P
def bn:N7:=fun W R N E P x0 x1 x2 x4 x8 aA SM h=>
aE SM (
a_ W R N E P x0 x1 x2 x4 x8 h) (
aQ W R N E P x0 x2 x4 x8 aA h)
def bj:N7:=fun W R N E P x0 x1 x2 x4 x8 aA aS h=>
e_ .not aS fun t39=>
bn W R N E P x0 x1 x2 x4 x8 aA t39 h
def aZ:N5:=fun W R N E P x0 x1 x2 x4 x8 h=>
bt x0 fun t40=>
ag (some 3) t40 fun t41=>
ai (some false) (some 1) t41 h fun t42 _=>
fX Pg (some (9,122)) t42 x1 true h fun t44 _=>
cl t44 0 fun t46=>
cl t44 1 fun t47=>
bj W R N E P x0 x1 x2 x4 x8 t46 t47 h
def bg:N5:=fun W R N E P x0 x1 x2 x3 x4 h=>
dF 3 100 x3 h fun t48 Hr=>
aZ W R N E P x0 x1 x2 x4 t48 Hr
theorem aI{x0 x1 x2 x3 x4:AV}{h:AH}{M:WK}{R:RK}(hp:bg (fun id=>M id\/h.next<=id) (aH Pg [.tmp 10] R) (aH Pg [.tmp 10] R) (fun _ _ _=>False) (fun v h=>R (.bV v) h) x0 x1 x2 x3 x4 h):ay Pg 69 [x0,x1,x2,x3,x4] h M R:=
 fin (n:=70) (pl:=[(12,⟨[(none,(fr 0 14))],false,[],[]⟩)]) (rs:=[.tmp 10]) (L:=rs) (fun c=>(a5 bg 0 1 2 3 4 c)) Tryz.mixed Tryz.func69 (fun c=>
(sq (a5 bg 0 1 2 3 4 c)
(sq (a5 aZ 0 1 2 4 8 c)
(sn
(sn
(sq (a5 n9 0 2 4 8 11 c)
(sn
(sl (a5 n1 0 4 8 11 13 c))
(sq (a6 n8 0 2 4 8 11 13 c)
(bk 0 (lp [0,2,4,8,11,13,43,44,45] rs [(0,[0,4,8,11,13])] (a9 n7 0 2 4 8 11 13 43 44 45 c) cn (fun i vs h=>if i=0 then n1 c.W c.R c.N c.E c.P (vs.getD 0 ab) (vs.getD 1 ab) (vs.getD 2 ab) (vs.getD 3 ab) (vs.getD 4 ab) h else c.E i vs h) (.b (.t .o)) fun c=>
(sq (a9 n6 0 2 4 8 11 13 43 44 45 c)
(sn
(sn
(sm (a9 n2 0 2 4 8 11 13 43 44 45 c))
(bk 1 (sq (a9 n4 0 2 4 8 11 13 43 44 45 c)
(sm (DE n3 0 2 4 8 11 13 14 15 43 44 45 c)))))
(cd (te n5 0 2 4 8 11 13 43 44 45 46 c) tr tr))))))))
(sq (a5 aQ 0 2 4 8 11 c)
(cd (a6 aU 0 2 4 8 11 38 c) (sl (a0 aP c)) tr)))
(sq (a7 bj 0 1 2 4 8 11 12 c)
(cd (a7 bn 0 1 2 4 8 11 26 c) (sl (a5 a_ 0 1 2 4 8 c)) tr)))))) hp
attribute [simp] n1 n2 n3 n4 n5 n6 n8 n9 aP aU aQ a_ bn bj aZ bg
end lS
namespace tg
abbrev rs:List Nat:=[4]
def n1:N1:=fun _ R _ _ _ x5 h=>
R [x5] h
def n2:N5:=fun _ _ N _ _ x0 x5 x8 x9 ap h=>
aa Pg .add 3 true ap (.sc (.int .i64 1)) fun t1=>
N [x0,x5,x8,x9,t1] h
def n3:N6:=fun W R N E P x0 x5 x7 x8 x9 ap h=>
bt x0 fun t2=>
ag (some 1) t2 fun t3=>
ai (some false) (some 1) t3 h fun t4 _=>
ag (some 0) x7 fun t6=>
ai (some false) (some 1) t6 h fun t7 _=>
fX Pg (some (9,56)) t4 t7 false h fun t9 _=>
l7 (some (0,1,false)) t9 fun t11=>
ag (some 1) x7 fun t12=>
ai (some false) (some 1) t12 h fun t13 _=>
aa Pg .add 3 false t11 t13 fun t15=>
db (some (1,3,[.int .i64 0])) 1 [(0,t15)] h fun t16 sT=>
dV (some (1,8,3)) x5 t16 sT W fun t18 vC=>
n2 W R N E P x0 t18 x8 x9 ap vC
def n4:N5:=fun W R N E P x0 x5 x8 x9 ap h=>
bM (some (2,none)) x8 ap fun t20=>
ai (some true) (some 2) t20 h fun t21 _=>
bH (some [.string ⟨#[]⟩,.int .i64 0]) 2 67 h fun t23 vB=>
aG (some 2) t23 t21 vB W fun vA=>
n3 W R N E P x0 x5 t23 x8 x9 ap vA
def n5:N6:=fun W R N E P x0 x5 x8 x9 ap aA h=>
aE aA (
n4 W R N E P x0 x5 x8 x9 ap h) (
E 0 [x5] h)
def n6:N5:=fun W R N E P x0 x5 x8 x9 ap h=>
aa Pg .lss 3 false ap x9 fun t26=>
n5 W R N E P x0 x5 x8 x9 ap t26 h
def cn:GK:=fun W R N E P N' vs h=>n6 W R N' (fun(i:Nat) (vs:List AV) (h:AH)=>if i=0 then n1 W R N E P (vs.getD 0 ab) h else E i vs h) P (vs.getD 0 ab) (vs.getD 1 ab) (vs.getD 2 ab) (vs.getD 3 ab) (vs.getD 4 ab) h
def n7:N5:=fun W R N E P x0 x5 x8 x9 ap h=>
da (cn W R N E P) [x0,x5,x8,x9,ap] h
def n8:N3:=fun W R N E P x0 x1 x5 h=>
(aW x1=false)/\bL x1 fun t27=>
n7 W R N E P x0 x5 x1 t27 (.sc (.int .i64 0)) h
def n9:N2:=fun W R N E P x0 x1 h=>
n8 W R N E P x0 x1 (.sc (.slice none 0 0)) h
def aP:N2:=fun W R N E P x0 x1 h=>
n9 W R N E P x0 x1 h
theorem aI{x0 x1:AV}{h:AH}{M:WK}{R:RK}(hp:aP (fun id=>M id\/h.next<=id) (aH Pg [.tmp 4] R) (aH Pg [.tmp 4] R) (fun _ _ _=>False) (fun v h=>R (.bV v) h) x0 x1 h):ay Pg 70 [x0,x1] h M R:=
 fin (n:=30) (pl:=[(5,⟨[(none,(fr 0 15))],false,[],[]⟩)]) (rs:=[.tmp 4]) (L:=rs) (fun c=>(a2 aP 0 1 c)) Tryz.mixed Tryz.func70 (fun c=>
(sq (a2 aP 0 1 c)
(sq (a2 n9 0 1 c)
(sn
(sl (a1 n1 5 c))
(sq (a3 n8 0 1 5 c)
(bk 0 (lp [0,5,8,9,10] rs [(0,[5])] (a5 n7 0 5 8 9 10 c) cn (fun i vs h=>if i=0 then n1 c.W c.R c.N c.E c.P (vs.getD 0 ab) h else c.E i vs h) (.b (.t .o)) fun c=>
(sq (a5 n6 0 5 8 9 10 c)
(sn
(sn
(sm (a5 n2 0 5 8 9 10 c))
(bk 1 (sq (a5 n4 0 5 8 9 10 c)
(sm (a6 n3 0 5 7 8 9 10 c)))))
(cd (a6 n5 0 5 8 9 10 11 c) tr tr)))))))))) hp
attribute [simp] n1 n2 n3 n4 n5 n6 n8 n9 aP
end tg
namespace vG
abbrev rs:List Nat:=[8]
def n1:N0:=fun _ R _ _ _ h=>
R [(.sc (.bool true))] h
def n2:N2:=fun W R N E P x0 x3 h=>
bt x0 fun t1=>
ag (some 4) t1 fun t2=>
ai (some false) (some 1) t2 h fun t3 _=>
db (some (1,3,[.int .i64 0])) 1 [(0,x3)] h fun t5 h6=>
dV (some (1,8,3)) t3 t5 h6 W fun t7 h8=>
bt x0 fun t9=>
ag (some 4) t9 fun t10=>
aG (some 1) t10 t7 h8 W fun mq=>
n1 W R N E P mq
def n3:N3:=fun W R N E P x0 x3 x5 h=>
bt x0 fun t12=>
ag (some 5) t12 fun t13=>
ag (some 2) t13 fun t14=>
ai (some false) (some 1) t14 h fun t15 _=>
ai (some true) (some 7) x5 h fun t17 _=>
db (some (7,38,[.int .i64 0,.string ⟨#[]⟩,.slice none 0 0,.int .i64 0,.bool false,.int .u64 0,.int .u64 0])) 1 [(0,t17)] h fun t19 qM=>
dV (some (7,80,38)) t15 t19 qM W fun t21 qj=>
bt x0 fun t23=>
ag (some 5) t23 fun t24=>
ag (some 2) t24 fun t25=>
aG (some 1) t25 t21 qj W fun mV=>
n2 W R N E P x0 x3 mV
def n4:N4:=fun W R N E P x0 x3 x5 x6 h=>
∃Hd:Nat->Nat,(∀i∈[3,5],h.obj (Hd i)≠none)/\(
ag (some 0) x6 fun t27=>
ai (some false) (some 1) t27 h fun t28 _=>
ag (some 1) x6 fun t30=>
ai (some false) (some 1) t30 h fun t31 i32=>
(i32=Hd 3)/\(
ag (some 2) x6 fun t33=>
ai (some false) (some 1) t33 h fun t34 i35=>
(i35=Hd 5)/\(
ag (some 4) x5 fun t36=>
aG (some 1) t36 t28 h (kL W Hd [3,5]) fun vv=>
ag (some 5) x5 fun t38=>
aG (some 1) t38 t31 vv (kL W Hd [5]) fun yy=>
ag (some 6) x5 fun t40=>
aG (some 1) t40 t34 yy W fun yx=>
n3 W R N E P x0 x3 x5 yx)))
def n5:N0:=fun _ R _ _ _ h=>
R [(.sc (.bool false))] h
def n6:N2:=fun W R N E P x0 x3 h=>
bt x0 fun t42=>
ag (some 8) t42 fun t43=>
aG (some 1) t43 x3 h W fun qL=>
n5 W R N E P qL
def n7:N5:=fun W R N E P x0 x3 x5 x6 dn h=>
aE dn (
n6 W R N E P x0 x3 h) (
n4 W R N E P x0 x3 x5 x6 h)
def n8:N4:=fun W R N E P x0 x3 x5 x6 h=>
bt x0 fun t45=>
ag (some 5) t45 fun t46=>
ag (some 2) t46 fun t47=>
ai (some false) (some 1) t47 h fun t48 _=>
(aW t48=false)/\bL t48 fun t50=>
aa Pg .eql 3 true t50 (.sc (.int .i64 4096)) fun t51=>
n7 W R N E P x0 x3 x5 x6 t51 h
def n9:N4:=fun W R N E P x0 x1 x2 x3 h=>
dF 7 38 x1 h fun t52 sO=>
dF 3 100 x2 sO fun t54 Bh=>
n8 W R N E P x0 x3 t52 t54 Bh
theorem aI{x0 x1 x2 x3:AV}{h:AH}{M:WK}{R:RK}(hp:n9 (fun id=>M id\/h.next<=id) (aH Pg [.tmp 8] R) (aH Pg [.tmp 8] R) (fun _ _ _=>False) (fun v h=>R (.bV v) h) x0 x1 x2 x3 h):ay Pg 71 [x0,x1,x2,x3] h M R:=
 fin (n:=51) (pl:=[(4,⟨[(none,[(0,false),(1,false),(2,false),(3,true),(4,false),(5,true),(6,false),(7,false),(8,false),(9,false),(10,false),(11,false)])],true,[],[]⟩),(5,⟨[(none,(fr 0 13))],false,[],[]⟩)]) (rs:=[.tmp 8]) (L:=rs) (fun c=>(a4 n9 0 1 2 3 c)) Tryz.mixed Tryz.func71 (fun c=>
(sq (a4 n9 0 1 2 3 c)
(sn
(sn
(sq (a3 n3 0 3 5 c)
(sq (a2 n2 0 3 c)
(sl (a0 n1 c))))
(sm (a4 n4 0 3 5 6 c)))
(sq (a4 n8 0 3 5 6 c)
(cd (a5 n7 0 3 5 6 15 c) (sq (a2 n6 0 3 c)
(sl (a0 n5 c))) tr))))) hp
attribute [simp] n1 n2 n3 n4 n5 n6 n7 n8 n9
end vG
namespace eP
abbrev rs:List Nat:=[12]
def n1:N0:=fun _ R _ _ _ h=>
R [(.sc (.bool true))] h
def n2:N6:=fun _ _ N _ _ x0 x2 x3 x5 ap bc h=>
bt x0 fun t1=>
ag (some 0) t1 fun t2=>
ai (some false) (some 1) t2 h fun t3 _=>
bM (some (6,none)) t3 bc fun t5=>
ag (some 4) t5 fun t6=>
ai (some false) (some 1) t6 h fun t7 _=>
aa Pg .add 3 true (.sc (.int .i64 1)) t7 fun t9=>
aa Pg .add 3 false bc t9 fun t10=>
N [x0,x2,x3,x5,ap,t10] h
def n3:N0:=fun _ R _ _ _ h=>
R [(.sc (.bool false))] h
def n4:N7:=fun W R N E P x0 x2 x3 x5 ap bc jl h=>
aE jl (
n3 W R N E P h) (
n2 W R N E P x0 x2 x3 x5 ap bc h)
def n5:N8:=fun W R N E P x0 x2 x3 x5 ap bc cg jy h=>
ag (some 1) cg fun t11=>
ai (some false) (some 1) t11 h fun t12 _=>
ai (some true) (some 3) ap h fun t14 _=>
aC Pg W 69 [x0,t12,jy,t14,x5] h (fun t16 sT=>
e_ .not t16 fun t18=>
n4 W R N E P x0 x2 x3 x5 ap bc t18 sT) P
def n6:Gh:=fun _ _ N _ _ x0 x2 x3 x5 ap bc cg jy eC iN pR h=>
aa Pg .add 3 true pR (.sc (.int .i64 1)) fun t19=>
N [x0,x2,x3,x5,ap,bc,cg,jy,eC,iN,t19] h
def n7:HP:=fun W R N E P x0 x2 x3 x5 ap bc cg jy ol eC iN pR h=>
ag (some 0) ol fun t20=>
ai (some false) (some 1) t20 h fun t21 _=>
fX Pg (some (9,3)) x3 t21 false h fun t23 _=>
db (some (1,3,[.int .i64 0])) 1 [(0,t23)] h fun t25 mV=>
dV (some (1,8,3)) jy t25 mV W fun t27 vy=>
n6 W R N E P x0 x2 x3 x5 ap bc cg t27 eC iN pR vy
def n8:Gh:=fun W R N E P x0 x2 x3 x5 ap bc cg jy eC iN pR h=>
bM (some (2,none)) eC pR fun t29=>
ai (some true) (some 2) t29 h fun t30 _=>
bH (some [.string ⟨#[]⟩,.int .i64 0]) 2 67 h fun t32 Hv=>
aG (some 2) t32 t30 Hv W fun yD=>
n7 W R N E P x0 x2 x3 x5 ap bc cg jy t32 eC iN pR yD
def n9:HP:=fun W R N E P x0 x2 x3 x5 ap bc cg jy eC iN pR JA h=>
aE JA (
n8 W R N E P x0 x2 x3 x5 ap bc cg jy eC iN pR h) (
E 4 [x0,x2,x3,x5,ap,bc,cg,jy] h)
def aP:Gh:=fun W R N E P x0 x2 x3 x5 ap bc cg jy eC iN pR h=>
aa Pg .lss 3 false pR iN fun t35=>
n9 W R N E P x0 x2 x3 x5 ap bc cg jy eC iN pR t35 h
def fI:GK:=fun W R N E P N' vs h=>aP W R N' (fun(i:Nat) (vs:List AV) (h:AH)=>if i=4 then n5 W R N E P (vs.getD 0 ab) (vs.getD 1 ab) (vs.getD 2 ab) (vs.getD 3 ab) (vs.getD 4 ab) (vs.getD 5 ab) (vs.getD 6 ab) (vs.getD 7 ab) h else if i=1 then n2 W R N E P (vs.getD 0 ab) (vs.getD 1 ab) (vs.getD 2 ab) (vs.getD 3 ab) (vs.getD 4 ab) (vs.getD 5 ab) h else E i vs h) P (vs.getD 0 ab) (vs.getD 1 ab) (vs.getD 2 ab) (vs.getD 3 ab) (vs.getD 4 ab) (vs.getD 5 ab) (vs.getD 6 ab) (vs.getD 7 ab) (vs.getD 8 ab) (vs.getD 9 ab) (vs.getD 10 ab) h
def aU:Gh:=fun W R N E P x0 x2 x3 x5 ap bc cg jy eC iN pR h=>
da (fI W R N E P) [x0,x2,x3,x5,ap,bc,cg,jy,eC,iN,pR] h
def aQ:N8:=fun W R N E P x0 x2 x3 x5 ap bc cg jy h=>
ag (some 2) cg fun t36=>
ai (some false) (some 1) t36 h fun t37 _=>
(aW t37=false)/\bL t37 fun t39=>
aU W R N E P x0 x2 x3 x5 ap bc cg jy t37 t39 (.sc (.int .i64 0)) h
def a_:N7:=fun W R N E P x0 x2 x3 x5 ap bc cg h=>
aQ W R N E P x0 x2 x3 x5 ap bc cg (.sc (.slice none 0 0)) h
def bn:N6:=fun W R N E P x0 x2 x3 x5 ap bc h=>
n2 W R N E P x0 x2 x3 x5 ap bc h
def bj:N8:=fun _ _ N _ _ x0 x2 x3 x5 ap bc cg dn h=>
aa Pg .add 3 true dn (.sc (.int .i64 1)) fun t40=>
N [x0,x2,x3,x5,ap,bc,cg,t40] h
def aZ:N9:=fun W R N E P x0 x2 x3 x5 ap bc cg dn gV h=>
aE gV (
E 2 [x0,x2,x3,x5,ap,bc] h) (
bj W R N E P x0 x2 x3 x5 ap bc cg dn h)
def bg:N9:=fun W R N E P x0 x2 x3 x5 ap bc cg dn cR h=>
bt x0 fun t41=>
ag (some 5) t41 fun t42=>
ag (some 2) t42 fun t43=>
ai (some false) (some 1) t43 h fun t44 _=>
(aW t44=false)/\bL t44 fun t46=>
aa Pg .eql 3 false t46 cR fun t47=>
aZ W R N E P x0 x2 x3 x5 ap bc cg dn t47 h
def bu:N0:=fun _ R _ _ _ h=>
R [(.sc (.bool false))] h
def bz:ua:=fun W R N E P x0 x2 x3 x5 ap bc cg dn cR gQ h=>
aE gQ (
bu W R N E P h) (
bg W R N E P x0 x2 x3 x5 ap bc cg dn cR h)
def bC:N9:=fun W R N E P x0 x2 x3 x5 ap bc cg dn cR h=>
aa Pg .add 3 true bc (.sc (.int .i64 1)) fun t48=>
aa Pg .add 3 true bc (.sc (.int .i64 1)) fun t49=>
ag (some 4) cg fun t50=>
ai (some false) (some 1) t50 h fun t51 _=>
aa Pg .add 3 false t49 t51 fun t53=>
ai (some true) (some 3) ap h fun t54 _=>
aC Pg W 94 [x0,t48,t53,x3,t54,x5] h (fun t56 wN=>
e_ .not t56 fun t58=>
bz W R N E P x0 x2 x3 x5 ap bc cg dn cR t58 wN) P
def bE:N8:=fun W R N E P x0 x2 x3 x5 ap bc cg dn h=>
bt x0 fun t59=>
ag (some 5) t59 fun t60=>
ag (some 2) t60 fun t61=>
ai (some false) (some 1) t61 h fun t62 _=>
(aW t62=false)/\bL t62 fun t64=>
bC W R N E P x0 x2 x3 x5 ap bc cg dn t64 h
def bG:N9:=fun W R N E P x0 x2 x3 x5 ap bc cg dn ed h=>
aE ed (
bE W R N E P x0 x2 x3 x5 ap bc cg dn h) (
E 2 [x0,x2,x3,x5,ap,bc] h)
def bD:N8:=fun W R N E P x0 x2 x3 x5 ap bc cg dn h=>
ag (some 3) cg fun t65=>
ai (some false) (some 1) t65 h fun t66 _=>
aa Pg .lss 3 false dn t66 fun t68=>
bG W R N E P x0 x2 x3 x5 ap bc cg dn t68 h
def rY:GK:=fun W R N E P N' vs h=>bD W R N' (fun(i:Nat) (vs:List AV) (h:AH)=>if i=2 then bn W R N E P (vs.getD 0 ab) (vs.getD 1 ab) (vs.getD 2 ab) (vs.getD 3 ab) (vs.getD 4 ab) (vs.getD 5 ab) h else if i=1 then n2 W R N E P (vs.getD 0 ab) (vs.getD 1 ab) (vs.getD 2 ab) (vs.getD 3 ab) (vs.getD 4 ab) (vs.getD 5 ab) h else E i vs h) P (vs.getD 0 ab) (vs.getD 1 ab) (vs.getD 2 ab) (vs.getD 3 ab) (vs.getD 4 ab) (vs.getD 5 ab) (vs.getD 6 ab) (vs.getD 7 ab) h
def bZ:N8:=fun W R N E P x0 x2 x3 x5 ap bc cg dn h=>
da (rY W R N E P) [x0,x2,x3,x5,ap,bc,cg,dn] h
def bY:N7:=fun W R N E P x0 x2 x3 x5 ap bc cg h=>
bZ W R N E P x0 x2 x3 x5 ap bc cg (.sc (.int .i64 0)) h
def bT:N8:=fun W R N E P x0 x2 x3 x5 ap bc cg fV h=>
aE fV (
bY W R N E P x0 x2 x3 x5 ap bc cg h) (
a_ W R N E P x0 x2 x3 x5 ap bc cg h)
def bW:N7:=fun W R N E P x0 x2 x3 x5 ap bc cg h=>
ag (some 0) cg fun t69=>
ai (some false) (some 1) t69 h fun t70 _=>
aa Pg .eql 9 true t70 (.sc (.string ⟨#[114,101,112,101,97,116]⟩)) fun t72=>
bT W R N E P x0 x2 x3 x5 ap bc cg t72 h
def cj:N6:=fun W R N E P x0 x2 x3 x5 ap bc h=>
bt x0 fun t73=>
ag (some 0) t73 fun t74=>
ai (some false) (some 1) t74 h fun t75 _=>
bM (some (6,none)) t75 bc fun t77=>
ai (some true) (some 6) t77 h fun t78 _=>
bH (some [.string ⟨#[]⟩,.string ⟨#[]⟩,.slice none 0 0,.int .i64 0,.int .i64 0,.int .i64 0]) 6 46 h fun t80 UU=>
aG (some 6) t80 t78 UU W fun Lg=>
bW W R N E P x0 x2 x3 x5 ap bc t80 Lg
def cq:N7:=fun W R N E P x0 x2 x3 x5 ap bc jQ h=>
aE jQ (
cj W R N E P x0 x2 x3 x5 ap bc h) (
E 0 [] h)
def cN:N6:=fun W R N E P x0 x2 x3 x5 ap bc h=>
aa Pg .lss 3 false bc x2 fun t83=>
cq W R N E P x0 x2 x3 x5 ap bc t83 h
def cn:GK:=fun W R N E P N' vs h=>cN W R N' (fun(i:Nat) (vs:List AV) (h:AH)=>if i=0 then n1 W R N E P h else E i vs h) P (vs.getD 0 ab) (vs.getD 1 ab) (vs.getD 2 ab) (vs.getD 3 ab) (vs.getD 4 ab) (vs.getD 5 ab) h
def cV:N6:=fun W R N E P x0 x2 x3 x5 ap bc h=>
da (cn W R N E P) [x0,x2,x3,x5,ap,bc] h
def cX:N6:=fun W R N E P x0 x1 x2 x3 x5 ap h=>
cV W R N E P x0 x2 x3 x5 ap x1 h
def dH:N6:=fun W R N E P x0 x1 x2 x3 x4 x5 h=>
dF 3 100 x4 h fun t84 Bf=>
cX W R N E P x0 x1 x2 x3 x5 t84 Bf
theorem aI{x0 x1 x2 x3 x4 x5:AV}{h:AH}{M:WK}{R:RK}(hp:dH (fun id=>M id\/h.next<=id) (aH Pg [.tmp 12] R) (aH Pg [.tmp 12] R) (fun _ _ _=>False) (fun v h=>R (.bV v) h) x0 x1 x2 x3 x4 x5 h):ay Pg 94 [x0,x1,x2,x3,x4,x5] h M R:=
 fin (n:=101) (pl:=[]) (rs:=[.tmp 12]) (L:=rs) (fun c=>(a6 dH 0 1 2 3 4 5 c)) Tryz.mixed Tryz.func94 (fun c=>
(sq (a6 dH 0 1 2 3 4 5 c)
(sn
(sl (a0 n1 c))
(sq (a6 cX 0 1 2 3 5 10 c)
(bk 0 (lp [0,2,3,5,10,13] rs [(0,[])] (a6 cV 0 2 3 5 10 13 c) cn (fun i vs h=>if i=0 then n1 c.W c.R c.N c.E c.P h else c.E i vs h) (.b (.t .o)) fun c=>
(sn
(sn
(sm (a6 n2 0 2 3 5 10 13 c))
(bk 1 (sq (a6 cj 0 2 3 5 10 13 c)
(sn
(sq (a7 a_ 0 2 3 5 10 13 14 c)
(sn
(sq (a8 n5 0 2 3 5 10 13 14 17 c)
(cd (a7 n4 0 2 3 5 10 13 100 c) (sl (a0 n3 c)) tr))
(sq (a8 aQ 0 2 3 5 10 13 14 17 c)
(bk 4 (lp [0,2,3,5,10,13,14,17,79,80,81] rs [(4,[0,2,3,5,10,13,14,17]),(1,[0,2,3,5,10,13]),(0,[])] (DE aU 0 2 3 5 10 13 14 17 79 80 81 c) fI (fun i vs h=>if i=4 then n5 c.W c.R c.N c.E c.P (vs.getD 0 ab) (vs.getD 1 ab) (vs.getD 2 ab) (vs.getD 3 ab) (vs.getD 4 ab) (vs.getD 5 ab) (vs.getD 6 ab) (vs.getD 7 ab) h else if i=1 then n2 c.W c.R c.N c.E c.P (vs.getD 0 ab) (vs.getD 1 ab) (vs.getD 2 ab) (vs.getD 3 ab) (vs.getD 4 ab) (vs.getD 5 ab) h else c.E i vs h) (.b (.t (.b (.t .o)))) fun c=>
(sq (DE aP 0 2 3 5 10 13 14 17 79 80 81 c)
(sn
(sn
(sm (DE n6 0 2 3 5 10 13 14 17 79 80 81 c))
(bk 5 (sq (DE n8 0 2 3 5 10 13 14 17 79 80 81 c)
(sm (a12 n7 0 2 3 5 10 13 14 17 19 79 80 81 c)))))
(cd (a12 n9 0 2 3 5 10 13 14 17 79 80 81 82 c) tr tr))))))))
(sq (a7 bW 0 2 3 5 10 13 14 c)
(cd (a8 bT 0 2 3 5 10 13 14 44 c) (sn
(sm (a6 bn 0 2 3 5 10 13 c))
(sq (a7 bY 0 2 3 5 10 13 14 c)
(bk 2 (lp [0,2,3,5,10,13,14,15] rs [(2,[0,2,3,5,10,13]),(1,[0,2,3,5,10,13]),(0,[])] (a8 bZ 0 2 3 5 10 13 14 15 c) rY (fun i vs h=>if i=2 then bn c.W c.R c.N c.E c.P (vs.getD 0 ab) (vs.getD 1 ab) (vs.getD 2 ab) (vs.getD 3 ab) (vs.getD 4 ab) (vs.getD 5 ab) h else if i=1 then n2 c.W c.R c.N c.E c.P (vs.getD 0 ab) (vs.getD 1 ab) (vs.getD 2 ab) (vs.getD 3 ab) (vs.getD 4 ab) (vs.getD 5 ab) h else c.E i vs h) (.b (.t (.t (.b (.t .o))))) fun c=>
(sn
(sn
(sm (a8 bj 0 2 3 5 10 13 14 15 c))
(bk 3 (sq (a8 bE 0 2 3 5 10 13 14 15 c)
(sn
(sq (a9 bg 0 2 3 5 10 13 14 15 16 c)
(cd (a9 aZ 0 2 3 5 10 13 14 15 77 c) tr tr))
(sq (a9 bC 0 2 3 5 10 13 14 15 16 c)
(cd (te bz 0 2 3 5 10 13 14 15 16 69 c) (sl (a0 bu c)) tr))))))
(sq (a8 bD 0 2 3 5 10 13 14 15 c)
(cd (a9 bG 0 2 3 5 10 13 14 15 48 c) tr tr))))))) tr))))))
(sq (a6 cN 0 2 3 5 10 13 c)
(cd (a7 cq 0 2 3 5 10 13 23 c) tr tr))))))))) hp
attribute [simp] n1 n2 n3 n4 n5 n6 n7 n8 n9 aP aQ a_ bn bj aZ bg bu bz bC bE bG bD bY bT bW cj cq cN cX dH
end eP
namespace dw
abbrev rs:List Nat:=[8]
def n1:N0:=fun _ R _ _ _ h=>
R [(.sc (.bool true))] h
def n2:N4:=fun _ _ N _ _ x0 x2 x7 x9 h=>
bt x0 fun t1=>
ag (some 0) t1 fun t2=>
ai (some false) (some 1) t2 h fun t3 _=>
bM (some (6,none)) t3 x9 fun t5=>
ag (some 4) t5 fun t6=>
ai (some false) (some 1) t6 h fun t7 _=>
aa Pg .add 3 true (.sc (.int .i64 1)) t7 fun t9=>
aa Pg .add 3 false x9 t9 fun t10=>
N [x0,x2,x7,t10] h
def n3:N0:=fun _ R _ _ _ h=>
R [(.sc (.bool false))] h
def n4:N5:=fun W R N E P x0 x2 x7 x9 Zg h=>
aE Zg (
n3 W R N E P h) (
n2 W R N E P x0 x2 x7 x9 h)
def n5:N5:=fun W R N E P x0 x2 x7 x9 aA h=>
e_ .not aA fun t11=>
n4 W R N E P x0 x2 x7 x9 t11 h
def n6:N7:=fun _ _ N _ _ x0 x2 x7 x9 ap aA aS h=>
aa Pg .add 3 true aS (.sc (.int .i64 1)) fun t12=>
N [x0,x2,x7,x9,ap,aA,t12] h
def n7:N8:=fun W R N E P x0 x2 x7 x9 ap aA aS SJ h=>
aE SJ (
E 3 [x0,x2,x7,x9,aA] h) (
n6 W R N E P x0 x2 x7 x9 ap aA aS h)
def n8:N8:=fun W R N E P x0 x2 x7 x9 ap aA aS bc h=>
bt x0 fun t13=>
ag (some 5) t13 fun t14=>
ag (some 2) t14 fun t15=>
ai (some false) (some 1) t15 h fun t16 _=>
(aW t16=false)/\bL t16 fun t18=>
aa Pg .eql 3 false t18 bc fun t19=>
n7 W R N E P x0 x2 x7 x9 ap aA aS t19 h
def n9:N7:=fun W R N E P x0 x2 x7 x9 ap aS bc h=>
aa Pg .add 3 true x9 (.sc (.int .i64 1)) fun t20=>
aa Pg .add 3 true x9 (.sc (.int .i64 1)) fun t21=>
ag (some 4) ap fun t22=>
ai (some false) (some 1) t22 h fun t23 _=>
aa Pg .add 3 false t21 t23 fun t25=>
ai (some true) (some 3) x7 h fun t26 _=>
aC Pg W 38 [x0,t20,t25,t26] h (fun t28 Qd=>
n8 W R N E P x0 x2 x7 x9 ap t28 aS bc Qd) P
def aP:N6:=fun W R N E P x0 x2 x7 x9 ap aS h=>
bt x0 fun t30=>
ag (some 5) t30 fun t31=>
ag (some 2) t31 fun t32=>
ai (some false) (some 1) t32 h fun t33 _=>
(aW t33=false)/\bL t33 fun t35=>
n9 W R N E P x0 x2 x7 x9 ap aS t35 h
def aU:N8:=fun W R N E P x0 x2 x7 x9 ap aA aS lf h=>
aE lf (
aP W R N E P x0 x2 x7 x9 ap aS h) (
E 3 [x0,x2,x7,x9,aA] h)
def aQ:N9:=fun W R N E P x0 x2 x7 x9 ap aA aS ed iI h=>
aJ ed iI (.sc (.bool false)) fun t36=>
aU W R N E P x0 x2 x7 x9 ap aA aS t36 h
def a_:N8:=fun W R N E P x0 x2 x7 x9 ap aA aS ed h=>
bd true ed (
aQ W R N E P x0 x2 x7 x9 ap aA aS ed aA h) (
aQ W R N E P x0 x2 x7 x9 ap aA aS ed ab h)
def bn:N7:=fun W R N E P x0 x2 x7 x9 ap aA aS h=>
ag (some 3) ap fun t37=>
ai (some false) (some 1) t37 h fun t38 _=>
aa Pg .lss 3 false aS t38 fun t40=>
a_ W R N E P x0 x2 x7 x9 ap aA aS t40 h
def fI:GK:=fun W R N E P N' vs h=>bn W R N' (fun(i:Nat) (vs:List AV) (h:AH)=>if i=3 then n5 W R N E P (vs.getD 0 ab) (vs.getD 1 ab) (vs.getD 2 ab) (vs.getD 3 ab) (vs.getD 4 ab) h else if i=2 then n5 W R N E P (vs.getD 0 ab) (vs.getD 1 ab) (vs.getD 2 ab) (vs.getD 3 ab) (vs.getD 4 ab) h else if i=1 then n2 W R N E P (vs.getD 0 ab) (vs.getD 1 ab) (vs.getD 2 ab) (vs.getD 3 ab) h else E i vs h) P (vs.getD 0 ab) (vs.getD 1 ab) (vs.getD 2 ab) (vs.getD 3 ab) (vs.getD 4 ab) (vs.getD 5 ab) (vs.getD 6 ab) h
def bj:N7:=fun W R N E P x0 x2 x7 x9 ap aA aS h=>
da (fI W R N E P) [x0,x2,x7,x9,ap,aA,aS] h
def aZ:N6:=fun W R N E P x0 x2 x7 x9 ap aA h=>
bj W R N E P x0 x2 x7 x9 ap aA (.sc (.int .i64 0)) h
def bg:N7:=fun W R N E P x0 x2 x7 x9 ap dn cR h=>
aa Pg .add 3 true x9 (.sc (.int .i64 1)) fun t41=>
aa Pg .add 3 true x9 (.sc (.int .i64 1)) fun t42=>
ag (some 4) ap fun t43=>
ai (some false) (some 1) t43 h fun t44 _=>
aa Pg .add 3 false t42 t44 fun t46=>
ag (some 1) x7 fun t47=>
ai (some false) (some 1) t47 h fun t48 _=>
aa Pg .or 36 false t48 dn fun t50=>
ag (some 2) x7 fun t51=>
ai (some false) (some 1) t51 h fun t52 _=>
aa Pg .or 36 false t52 cR fun t54=>
ck (some ([.bool false,.int .u64 0,.int .u64 0],.inl [(0,1),(1,1),(2,1)])) [(0,(.sc (.bool true))),(1,t50),(2,t54)] fun t55=>
aC Pg W 38 [x0,t41,t46,t55] h (fun t56 wN=>
n5 W R N E P x0 x2 x7 x9 t56 wN) P
def bu:N8:=fun W R N E P x0 x2 x7 x9 ap dn cR Zu h=>
aE Zu (
n2 W R N E P x0 x2 x7 x9 h) (
bg W R N E P x0 x2 x7 x9 ap dn cR h)
def bz:N7:=fun W R N E P x0 x2 x7 x9 ap dn cR h=>
ag (some 2) x7 fun t58=>
ai (some false) (some 1) t58 h fun t59 _=>
aa Pg .and 36 false t59 dn fun t61=>
ag (some 1) x7 fun t62=>
ai (some false) (some 1) t62 h fun t63 _=>
aa Pg .and 36 false cR t63 fun t65=>
aa Pg .neq 36 false t61 t65 fun t66=>
bu W R N E P x0 x2 x7 x9 ap dn cR t66 h
def bC:N7:=fun W R N E P x0 x2 x7 x9 ap cg dn h=>
ag (some 3) ap fun t67=>
ai (some false) (some 1) t67 h fun t68 _=>
l8 (some .u64) t68 fun t70=>
ag (some 0) cg fun t71=>
ai (some false) (some 1) t71 h fun t72 _=>
aa Pg .shl 36 false t70 t72 fun t74=>
bz W R N E P x0 x2 x7 x9 ap dn t74 h
def bE:N6:=fun W R N E P x0 x2 x7 x9 ap cg h=>
ag (some 1) cg fun t75=>
ai (some false) (some 1) t75 h fun t76 _=>
aa Pg .shl 36 true (.sc (.int .u64 1)) t76 fun t78=>
aa Pg .sub 36 true t78 (.sc (.int .u64 1)) fun t79=>
ag (some 0) cg fun t80=>
ai (some false) (some 1) t80 h fun t81 _=>
aa Pg .shl 36 false t79 t81 fun t83=>
bC W R N E P x0 x2 x7 x9 ap cg t83 h
def bG:N5:=fun W R N E P x0 x2 x7 x9 ap h=>
bt x0 fun t84=>
ag (some 2) t84 fun t85=>
ai (some false) (some 1) t85 h fun t86 _=>
ag (some 1) ap fun t88=>
ai (some false) (some 1) t88 h fun t89 _=>
fX Pg (some (9,56)) t86 t89 false h fun t91 _=>
bH (some [.int .i64 0,.int .i64 0]) 2 56 h fun t93 UQ=>
aG (some 2) t93 t91 UQ W fun h95=>
bE W R N E P x0 x2 x7 x9 ap t93 h95
def bD:N5:=fun W R N E P x0 x2 x7 x9 ap h=>
∃Hd:Nat->Nat,(∀i∈[2,7,9],h.obj (Hd i)≠none)/\(
ag (some 1) ap fun t96=>
ai (some false) (some 1) t96 h fun t97 i98=>
(i98=Hd 2)/\(
ag (some 2) ap fun t99=>
ai (some false) (some 1) t99 h fun t100 _=>
ai (some true) (some 3) x7 h fun t102 i103=>
(i103=Hd 7)/\(
ag (some 5) ap fun t104=>
ai (some false) (some 1) t104 h fun t105 i106=>
(i106=Hd 9)/\(
aC Pg (kL W Hd [2,7,9]) 70 [x0,t100] h (fun t107 Nt=>
aC Pg W 69 [x0,t97,t107,t102,t105] Nt (fun t109 abr=>
n5 W R N E P x0 x2 x7 x9 t109 abr) P) P))))
def bZ:N6:=fun W R N E P x0 x2 x7 x9 ap jy h=>
∃Hd:Nat->Nat,(∀i∈[8,10],h.obj (Hd i)≠none)/\(
ag (some 2) ap fun t111=>
ai (some false) (some 1) t111 h fun t112 _=>
tj (some 2) t112 none (some (.sc (.int .i64 1))) h fun t114=>
ai (some true) (some 3) x7 h fun t115 i116=>
(i116=Hd 8)/\(
ag (some 5) ap fun t117=>
ai (some false) (some 1) t117 h fun t118 i119=>
(i119=Hd 10)/\(
aC Pg (kL W Hd [8,10]) 70 [x0,t114] h (fun t120 abm=>
ck (some ([.int .i64 0,.string ⟨#[]⟩,.slice none 0 0,.int .i64 0,.bool false,.int .u64 0,.int .u64 0],.inl [(0,1),(1,1),(2,1),(3,1),(4,1),(5,1),(6,1)])) [(0,(.sc (.int .i64 2))),(2,t120),(3,jy)] fun t122=>
aC Pg W 71 [x0,t122,t115,t118] abm (fun t123 abl=>
n5 W R N E P x0 x2 x7 x9 t123 abl) P) P)))
def bY:N5:=fun W R N E P x0 x2 x7 x9 ap h=>
bt x0 fun t125=>
ag (some 2) t125 fun t126=>
ai (some false) (some 1) t126 h fun t127 _=>
ag (some 2) ap fun t129=>
ai (some false) (some 1) t129 h fun t130 _=>
bM (some (2,none)) t130 (.sc (.int .i64 1)) fun t132=>
ag (some 0) t132 fun t133=>
ai (some false) (some 1) t133 h fun t134 _=>
fX Pg (some (9,56)) t127 t134 false h fun t136 _=>
l7 (some (0,1,false)) t136 fun t138=>
ag (some 2) ap fun t139=>
ai (some false) (some 1) t139 h fun t140 _=>
bM (some (2,none)) t140 (.sc (.int .i64 1)) fun t142=>
ag (some 1) t142 fun t143=>
ai (some false) (some 1) t143 h fun t144 _=>
aa Pg .add 3 false t138 t144 fun t146=>
bZ W R N E P x0 x2 x7 x9 ap t146 h
def bT:N5:=fun W R N E P x0 x2 x7 x9 ap h=>
∃Hd:Nat->Nat,(∀i∈[6,8],h.obj (Hd i)≠none)/\(
ag (some 2) ap fun t147=>
ai (some false) (some 1) t147 h fun t148 _=>
ai (some true) (some 3) x7 h fun t150 i151=>
(i151=Hd 6)/\(
ag (some 5) ap fun t152=>
ai (some false) (some 1) t152 h fun t153 i154=>
(i154=Hd 8)/\(
aC Pg (kL W Hd [6,8]) 70 [x0,t148] h (fun t155 aa9=>
ck (some ([.int .i64 0,.string ⟨#[]⟩,.slice none 0 0,.int .i64 0,.bool false,.int .u64 0,.int .u64 0],.inl [(0,1),(1,1),(2,1),(3,1),(4,1),(5,1),(6,1)])) [(0,(.sc (.int .i64 3))),(2,t155)] fun t157=>
aC Pg W 71 [x0,t157,t150,t153] aa9 (fun t158 aa8=>
n5 W R N E P x0 x2 x7 x9 t158 aa8) P) P)))
def bW:N7:=fun W R N E P x0 x2 x7 x9 ap aA Zh h=>
aE Zh (
bT W R N E P x0 x2 x7 x9 ap h) (
n5 W R N E P x0 x2 x7 x9 aA h)
def cj:N7:=fun W R N E P x0 x2 x7 x9 ap aA iO h=>
aa Pg .eql 9 true iO (.sc (.string ⟨#[114,101,115,101,116]⟩)) fun t160=>
bW W R N E P x0 x2 x7 x9 ap aA t160 h
def cq:N8:=fun W R N E P x0 x2 x7 x9 ap aA iO Zj h=>
aE Zj (
bY W R N E P x0 x2 x7 x9 ap h) (
cj W R N E P x0 x2 x7 x9 ap aA iO h)
def cN:N7:=fun W R N E P x0 x2 x7 x9 ap aA iO h=>
aa Pg .eql 9 true iO (.sc (.string ⟨#[109,101,97,115,117,114,101]⟩)) fun t161=>
cq W R N E P x0 x2 x7 x9 ap aA iO t161 h
def cV:N8:=fun W R N E P x0 x2 x7 x9 ap aA iO Mf h=>
aE Mf (
bD W R N E P x0 x2 x7 x9 ap h) (
cN W R N E P x0 x2 x7 x9 ap aA iO h)
def cX:N7:=fun W R N E P x0 x2 x7 x9 ap aA iO h=>
aa Pg .eql 9 true iO (.sc (.string ⟨#[117,115,101]⟩)) fun t162=>
cV W R N E P x0 x2 x7 x9 ap aA iO t162 h
def dH:N8:=fun W R N E P x0 x2 x7 x9 ap aA iO gV h=>
aE gV (
bG W R N E P x0 x2 x7 x9 ap h) (
cX W R N E P x0 x2 x7 x9 ap aA iO h)
def eh:N7:=fun W R N E P x0 x2 x7 x9 ap aA iO h=>
aa Pg .eql 9 true iO (.sc (.string ⟨#[105,102]⟩)) fun t163=>
dH W R N E P x0 x2 x7 x9 ap aA iO t163 h
def ft:N8:=fun W R N E P x0 x2 x7 x9 ap aA iO rA h=>
aE rA (
aZ W R N E P x0 x2 x7 x9 ap aA h) (
eh W R N E P x0 x2 x7 x9 ap aA iO h)
def fc:N7:=fun W R N E P x0 x2 x7 x9 ap aA iO h=>
aa Pg .eql 9 true iO (.sc (.string ⟨#[114,101,112,101,97,116]⟩)) fun t164=>
ft W R N E P x0 x2 x7 x9 ap aA iO t164 h
def fQ:N6:=fun W R N E P x0 x2 x7 x9 ap aA h=>
ag (some 0) ap fun t165=>
ai (some false) (some 1) t165 h fun t166 _=>
fc W R N E P x0 x2 x7 x9 ap aA t166 h
def fM:N5:=fun W R N E P x0 x2 x7 x9 ap h=>
fQ W R N E P x0 x2 x7 x9 ap (.sc (.bool true)) h
def gh:N4:=fun W R N E P x0 x2 x7 x9 h=>
bt x0 fun t168=>
ag (some 0) t168 fun t169=>
ai (some false) (some 1) t169 h fun t170 _=>
bM (some (6,none)) t170 x9 fun t172=>
ai (some true) (some 6) t172 h fun t173 _=>
bH (some [.string ⟨#[]⟩,.string ⟨#[]⟩,.slice none 0 0,.int .i64 0,.int .i64 0,.int .i64 0]) 6 46 h fun t175 aa7=>
aG (some 6) t175 t173 aa7 W fun No=>
fM W R N E P x0 x2 x7 x9 t175 No
def fq:N5:=fun W R N E P x0 x2 x7 x9 lh h=>
aE lh (
gh W R N E P x0 x2 x7 x9 h) (
E 0 [] h)
def fp:N4:=fun W R N E P x0 x2 x7 x9 h=>
aa Pg .lss 3 false x9 x2 fun t178=>
fq W R N E P x0 x2 x7 x9 t178 h
def cn:GK:=fun W R N E P N' vs h=>fp W R N' (fun(i:Nat) (vs:List AV) (h:AH)=>if i=0 then n1 W R N E P h else E i vs h) P (vs.getD 0 ab) (vs.getD 1 ab) (vs.getD 2 ab) (vs.getD 3 ab) h
def gg:N4:=fun W R N E P x0 x2 x7 x9 h=>
da (cn W R N E P) [x0,x2,x7,x9] h
def gI:N4:=fun W R N E P x0 x1 x2 x7 h=>
gg W R N E P x0 x2 x7 x1 h
def gv:N4:=fun W R N E P x0 x1 x2 x3 h=>
dF 3 100 x3 h fun t179 Nn=>
gI W R N E P x0 x1 x2 t179 Nn
theorem aI{x0 x1 x2 x3:AV}{h:AH}{M:WK}{R:RK}(hp:gv (fun id=>M id\/h.next<=id) (aH Pg [.tmp 8] R) (aH Pg [.tmp 8] R) (fun _ _ _=>False) (fun v h=>R (.bV v) h) x0 x1 x2 x3 h):ay Pg 38 [x0,x1,x2,x3] h M R:=
 fin (n:=184) (pl:=[(9,⟨[(none,(fr 0 5)),(some (4,true),(fr 5 1)),(none,(fr 6 1))],false,[],[]⟩),(15,⟨[(none,(fr 0 9))],false,[],[]⟩),(16,⟨[(none,(fr 0 8))],false,[],[]⟩),(21,⟨[(none,[(0,false),(1,false),(2,true),(3,false),(4,false),(5,false),(7,true),(8,false),(9,true),(6,false),(10,false),(11,false)])],true,[],[]⟩),(23,⟨[(none,(fr 0 18))],false,[],[]⟩),(24,⟨[(none,[(0,false),(1,false),(2,false),(3,false),(4,false),(6,false),(8,true),(9,false),(10,true),(5,false),(7,false),(11,false),(12,false)])],true,[],[]⟩),(26,⟨[(none,[(0,false),(1,false),(2,false),(3,false),(6,true),(7,false),(8,true),(4,false),(5,false),(9,false),(10,false)])],true,[],[]⟩)]) (rs:=[.tmp 8]) (L:=rs) (fun c=>(a4 gv 0 1 2 3 c)) Tryz.mixed Tryz.func38 (fun c=>
(sq (a4 gv 0 1 2 3 c)
(sn
(sl (a0 n1 c))
(sq (a4 gI 0 1 2 7 c)
(bk 0 (lp [0,2,7,9] rs [(0,[])] (a4 gg 0 2 7 9 c) cn (fun i vs h=>if i=0 then n1 c.W c.R c.N c.E c.P h else c.E i vs h) (.b (.t .o)) fun c=>
(sn
(sn
(sm (a4 n2 0 2 7 9 c))
(bk 1 (sq (a4 gh 0 2 7 9 c)
(sq (a5 fM 0 2 7 9 10 c)
(sn
(sq (a5 n5 0 2 7 9 11 c)
(cd (a5 n4 0 2 7 9 183 c) (sl (a0 n3 c)) tr))
(sq (a6 fQ 0 2 7 9 10 11 c)
(bk 2 (sq (a7 fc 0 2 7 9 10 11 41 c)
(cd (a8 ft 0 2 7 9 10 11 41 42 c) (sq (a6 aZ 0 2 7 9 10 11 c)
(bk 3 (lp [0,2,7,9,10,11,12] rs [(3,[0,2,7,9,11]),(2,[0,2,7,9,11]),(1,[0,2,7,9]),(0,[])] (a7 bj 0 2 7 9 10 11 12 c) fI (fun i vs h=>if i=3 then n5 c.W c.R c.N c.E c.P (vs.getD 0 ab) (vs.getD 1 ab) (vs.getD 2 ab) (vs.getD 3 ab) (vs.getD 4 ab) h else if i=2 then n5 c.W c.R c.N c.E c.P (vs.getD 0 ab) (vs.getD 1 ab) (vs.getD 2 ab) (vs.getD 3 ab) (vs.getD 4 ab) h else if i=1 then n2 c.W c.R c.N c.E c.P (vs.getD 0 ab) (vs.getD 1 ab) (vs.getD 2 ab) (vs.getD 3 ab) h else c.E i vs h) (.b (.b (.t (.b (.t .o))))) fun c=>
(sn
(sn
(sm (a7 n6 0 2 7 9 10 11 12 c))
(bk 4 (sq (a6 aP 0 2 7 9 10 12 c)
(sq (a7 n9 0 2 7 9 10 12 13 c)
(sq (a8 n8 0 2 7 9 10 11 12 13 c)
(cd (a8 n7 0 2 7 9 10 11 12 76 c) tr tr))))))
(sn
(cd (a8 aU 0 2 7 9 10 11 12 50 c) tr tr)
(gr (gn (a7 bn 0 2 7 9 10 11 12 c) (gx (a8 a_ 0 2 7 9 10 11 12 48 c) (gl (a9 aQ 0 2 7 9 10 11 12 48 49 c)))))))))) (sq (a7 eh 0 2 7 9 10 11 41 c)
(cd (a8 dH 0 2 7 9 10 11 41 77 c) (sq (a5 bG 0 2 7 9 10 c)
(sq (a6 bE 0 2 7 9 10 14 c)
(sq (a7 bC 0 2 7 9 10 14 15 c)
(sn
(sm (a7 bg 0 2 7 9 10 15 16 c))
(sq (a7 bz 0 2 7 9 10 15 16 c)
(cd (a8 bu 0 2 7 9 10 15 16 107 c) tr tr)))))) (sq (a7 cX 0 2 7 9 10 11 41 c)
(cd (a8 cV 0 2 7 9 10 11 41 126 c) (sm (a5 bD 0 2 7 9 10 c)) (sq (a7 cN 0 2 7 9 10 11 41 c)
(cd (a8 cq 0 2 7 9 10 11 41 139 c) (sq (a5 bY 0 2 7 9 10 c)
(sm (a6 bZ 0 2 7 9 10 17 c))) (sq (a7 cj 0 2 7 9 10 11 41 c)
(cd (a7 bW 0 2 7 9 10 11 170 c) (sm (a5 bT 0 2 7 9 10 c)) tr)))))))))))))))))
(sq (a4 fp 0 2 7 9 c)
(cd (a5 fq 0 2 7 9 21 c) tr tr))))))))) hp
attribute [simp] n1 n2 n3 n4 n5 n6 n7 n8 n9 aP aU aQ a_ bn aZ bg bu bz bC bE bG bD bZ bY bT bW cj cq cN cV cX dH eh ft fc fQ fM gh fq fp gI gv
end dw
end
end Go.Proofs.YtjehibknlmehmaaGreatDoor
