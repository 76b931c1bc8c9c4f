/- Bodies of package flat; printed. No condition. -/
import Derived.Test.YtjehibknlmehmaaGreatDoorGlk
set_option maxRecDepth 100000
namespace Go.Proofs.YtjehibknlmehmaaGreatDoor
section
open Go.Ab
namespace kG
abbrev rs:List Nat:=[2,3,4]
def n1:N2:=fun W R _ _ _ x2 x5 h=>
aY x5 fun t1=>
ah (some 5) t1 fun t2=>
al (some true) (some 3) t2 h fun t3 _=>
aE (some 3) x2 t3 h W fun h5=>
R [x2,(.sc (.int .i64 0)),(.sc (.int .i64 0))] h5
def n2:N2:=fun W R _ _ _ x2 x8 h=>
bZ (some ([.int .i64 0,.int .i64 0,.slice none 0 0],.inl [(0,1),(1,1),(2,1)])) [] fun t6=>
aE (some 3) x2 t6 h W fun h7=>
R [x2,(.sc (.int .i64 0)),x8] h7
def n3:N3:=fun _ R _ _ _ x2 x3 x4 h=>
R [x2,x3,x4] h
def n4:N4:=fun W R N E P x2 x5 x7 x8 h=>
∃Hd:Nat->Nat,(∀i∈[4,7],h.obj (Hd i)≠none)/\(
bZ (some ([.int .i64 0,.int .i64 0,.slice none 0 0],.inl [(0,1),(1,1),(2,1)])) [] fun t8=>
aY x5 fun t9=>
ah (some 4) t9 fun t10=>
al (some false) (some 1) t10 h fun t11 i12=>
(i12=Hd 4)/\(
cj (some (1,none)) t11 x7 fun t13=>
al (some false) (some 1) t13 h fun t14 i15=>
(i15=Hd 7)/\(
aE (some 3) x2 t8 h (jG W Hd [4,7]) fun mz=>
n3 W R N E P x2 t14 x8 mz)))
def n5:N5:=fun W R N E P x2 x5 x7 x8 tl h=>
aM tl (
n4 W R N E P x2 x5 x7 x8 h) (
n2 W R N E P x2 x8 h)
def n6:N4:=fun W R N E P x2 x5 x7 x8 h=>
aY x5 fun t17=>
ah (some 4) t17 fun t18=>
al (some false) (some 1) t18 h fun t19 _=>
(a_ t19=false)/\bO t19 fun t21=>
ag Pg .lss 3 false x7 t21 fun t22=>
n5 W R N E P x2 x5 x7 x8 t22 h
def n7:N5:=fun W R N E P x2 x5 x7 x8 iS h=>
aM iS (
n6 W R N E P x2 x5 x7 x8 h) (
n1 W R N E P x2 x5 h)
def n8:N4:=fun W R N E P x2 x5 x7 x8 h=>
ag Pg .neq 28 true x8 (.sc (.int .i64 0)) fun t23=>
n7 W R N E P x2 x5 x7 x8 t23 h
def n9:N2:=fun W R N E P x2 x5 h=>
aY x5 fun t24=>
ah (some 5) t24 fun t25=>
al (some true) (some 3) t25 h fun t26 _=>
aC Pg W 14 [t26] h (fun t28 QU=>
cf t28 0 fun t30=>
cf t28 1 fun t31=>
n8 W R N E P x2 x5 t30 t31 QU) P
def aZ:N3:=fun _ R _ _ _ x2 x3 x4 h=>
R [x2,x3,x4] h
def bc:N2:=fun W R N E P x2 x5 h=>
∃Hd:Nat->Nat,(∀i∈[4],h.obj (Hd i)≠none)/\(
bZ (some ([.int .i64 0,.int .i64 0,.slice none 0 0],.inl [(0,1),(1,1),(2,1)])) [] fun t32=>
aY x5 fun t33=>
ah (some 8) t33 fun t34=>
al (some false) (some 1) t34 h fun t35 i36=>
(i36=Hd 4)/\(
aE (some 3) x2 t32 h (jG W Hd [4]) fun vF=>
aZ W R N E P x2 t35 (.sc (.int .i64 115)) vF))
def ba:N3:=fun W R N E P x2 x5 j9 h=>
aM j9 (
bc W R N E P x2 x5 h) (
n9 W R N E P x2 x5 h)
def br:N3:=fun W R N E P x0 x2 x5 h=>
(a_ x0=false)/\bO x0 fun t38=>
bZ (some ([.bool false,.int .u64 0,.int .u64 0],.inl [(0,1),(1,1),(2,1)])) [] fun t39=>
aC Pg W 38 [x5,(.sc (.int .i64 0)),t38,t39] h (fun t40 DA=>
gM .not t40 fun t42=>
ba W R N E P x2 x5 t42 DA) P
def bF:N3:=fun _ R _ _ _ x2 x3 x4 h=>
R [x2,x3,x4] h
def bM:N3:=fun W R N E P x2 x5 x6 h=>
∃Hd:Nat->Nat,(∀i∈[4],h.obj (Hd i)≠none)/\(
bZ (some ([.int .i64 0,.int .i64 0,.slice none 0 0],.inl [(0,1),(1,1),(2,1)])) [] fun t43=>
aY x5 fun t44=>
ah (some 8) t44 fun t45=>
al (some false) (some 1) t45 h fun t46 i47=>
(i47=Hd 4)/\(
aE (some 3) x2 t43 h (jG W Hd [4]) fun vC=>
bF W R N E P x2 t46 x6 vC))
def bP:N5:=fun W R N E P x0 x2 x5 x6 dM h=>
aM dM (
bM W R N E P x2 x5 x6 h) (
br W R N E P x0 x2 x5 h)
def bN:N4:=fun W R N E P x0 x2 x5 x6 h=>
ag Pg .neq 28 true x6 (.sc (.int .i64 0)) fun t49=>
bP W R N E P x0 x2 x5 x6 t49 h
def bW:N3:=fun W R N E P x0 x2 x5 h=>
(a_ x0=false)/\bO x0 fun t50=>
aC Pg W 37 [x5,(.sc (.int .i64 0)),t50,(.sc (.int .i64 0)),(.sc (.pointer none))] h (fun t51 yM=>
bN W R N E P x0 x2 x5 t51 yM) P
def bT:N2:=fun W R N E P x0 x2 h=>
aC Pg W 36 [x0] h (fun t53 Dy=>
bW W R N E P x0 x2 t53 Dy) P
def bX:N1:=fun W R N E P x0 h=>
bn (some [.int .i64 0,.int .i64 0,.slice none 0 0]) 3 24 h fun t55 FQ=>
bT W R N E P x0 t55 FQ
theorem aO{x0:AV}{h:AH}{M:WK}{R:RK}(hp:bX (fun id=>M id\/h.next<=id) (aK Pg [.cell 2 24,.tmp 3,.tmp 4] R) (aK Pg [.cell 2 24,.tmp 3,.tmp 4] R) (fun _ _ _=>False) (fun v h=>R (.b6 v) h) x0 h):aB Pg 20 [x0] h M R:=
 fin (n:=66) (pl:=[(4,⟨[(none,[(0,false),(1,false),(2,false),(3,false),(4,true),(5,false),(6,false),(7,false),(8,false)])],true,[],[]⟩),(6,⟨[(none,[(0,false),(1,false),(2,false),(3,false),(4,true),(5,false),(6,false),(7,false)])],true,[],[]⟩),(10,⟨[(none,[(0,false),(1,false),(2,false),(3,false),(4,true),(5,false),(6,false),(7,true),(8,false),(9,false),(10,false),(11,false)])],true,[],[]⟩)]) (rs:=[.cell 2 24,.tmp 3,.tmp 4]) (L:=rs) (fun c=>(a1 bX 0 c)) Tryz.mixed Tryz.func20 (fun c=>
(sq (a1 bX 0 c)
(sq (a2 bT 0 2 c)
(sn
(sn
(sn
(sl (a2 n1 2 5 c))
(sq (a2 n9 2 5 c)
(sq (a4 n8 2 5 7 8 c)
(cd (a5 n7 2 5 7 8 43 c) (sn
(sl (a2 n2 2 8 c))
(sq (a4 n6 2 5 7 8 c)
(cd (a5 n5 2 5 7 8 50 c) (sn
(sm (a3 n3 2 3 4 c))
(sm (a4 n4 2 5 7 8 c))) tr))) tr))))
(sq (a3 br 0 2 5 c)
(cd (a3 ba 2 5 28 c) (sn
(sm (a3 aZ 2 3 4 c))
(sm (a2 bc 2 5 c))) tr)))
(sq (a3 bW 0 2 5 c)
(sq (a4 bN 0 2 5 6 c)
(cd (a5 bP 0 2 5 6 16 c) (sn
(sm (a3 bF 2 3 4 c))
(sm (a3 bM 2 5 6 c))) tr))))))) hp
attribute [simp] n1 n2 n3 n4 n5 n6 n7 n8 n9 aZ bc ba br bF bM bP bN bW bT bX
end kG
namespace Rj
abbrev rs:List Nat:=[2]
def n1:N1:=fun _ R _ _ _ x0 h=>
qq 94 h fun t1 h2=>
qq 94 h2 fun t3 h4=>
qq 95 h4 fun t5 h6=>
bZ (some ([.slice none 0 0,.map none,.map none,.map none,.slice none 0 0,.int .i64 0,.int .i64 0,.slice none 0 0,.int .i64 0],.inl [(0,1),(1,1),(2,1),(3,1),(4,1),(5,3),(8,1)])) [(0,x0),(1,t1),(2,t3),(3,t5)] fun t7=>
dS 9 97 t7 h6 fun t8 h9=>
R [t8] h9
def n2:N1:=fun W R N E P x0 h=>
n1 W R N E P x0 h
theorem aO{x0:AV}{h:AH}{M:WK}{R:RK}(hp:n2 (fun id=>M id\/h.next<=id) (aK Pg [.tmp 2] R) (aK Pg [.tmp 2] R) (fun _ _ _=>False) (fun v h=>R (.b6 v) h) x0 h):aB Pg 36 [x0] h M R:=
 fin (n:=9) (pl:=[]) (rs:=[.tmp 2]) (L:=rs) (fun c=>(a1 n2 0 c)) Tryz.mixed Tryz.func36 (fun c=>
(sq (a1 n2 0 c)
(sl (a1 n1 0 c)))) hp
attribute [simp] n1 n2
end Rj
namespace dj
abbrev rs:List Nat:=[10]
def n1:N0:=fun _ R _ _ _ h=>
R [(.sc (.int .i64 0))] h
def n2:N0:=fun _ R _ _ _ h=>
R [(.sc (.int .i64 100))] h
def n3:N0:=fun _ R _ _ _ h=>
R [(.sc (.int .i64 102))] h
def n4:N0:=fun _ R _ _ _ h=>
R [(.sc (.int .i64 100))] h
def n5:N0:=fun _ R _ _ _ h=>
R [(.sc (.int .i64 100))] h
def n6:N1:=fun W R N E P lD h=>
aM lD (
n5 W R N E P h) (
n1 W R N E P h)
def n7:N2:=fun W R N E P gT qZ h=>
aT gT qZ (.sc (.bool false)) fun t1=>
n6 W R N E P t1 h
def n8:N2:=fun W R N E P x6 gT h=>
bE true gT (
ah (some 0) x6 fun t2=>
al (some false) (some 1) t2 h fun t3 _=>
ag Pg .neq 9 true t3 (.sc (.string ⟨#[114,101,112,101,97,116]⟩)) fun t5=>
n7 W R N E P gT t5 h) (
n7 W R N E P gT aa h)
def n9:N3:=fun W R N E P x6 Ew Tq h=>
aT Ew Tq (.sc (.bool false)) fun t6=>
n8 W R N E P x6 t6 h
def aZ:N2:=fun W R N E P x6 Ew h=>
bE true Ew (
ah (some 0) x6 fun t7=>
al (some false) (some 1) t7 h fun t8 _=>
ag Pg .neq 9 true t8 (.sc (.string ⟨#[117,115,101]⟩)) fun t10=>
n9 W R N E P x6 Ew t10 h) (
n9 W R N E P x6 Ew aa h)
def bc:N2:=fun W R N E P x4 x6 h=>
ag Pg .neq 122 true x4 (.sc (.pointer none)) fun t11=>
aZ W R N E P x6 t11 h
def ba:N3:=fun W R N E P x4 x6 iT h=>
aM iT (
n4 W R N E P h) (
bc W R N E P x4 x6 h)
def br:N4:=fun W R N E P x4 x6 fM pQ h=>
aT fM pQ (.sc (.bool false)) fun t12=>
ba W R N E P x4 x6 t12 h
def bF:N5:=fun W R N E P x4 x6 fM cC J1 h=>
bE true fM (
aT cC (.sc (.bool true)) J1 fun t13=>
br W R N E P x4 x6 fM t13 h) (
br W R N E P x4 x6 fM aa h)
def bM:N4:=fun W R N E P x4 x6 fM cC h=>
bE false cC (
ah (some 0) x6 fun t14=>
al (some false) (some 1) t14 h fun t15 _=>
ag Pg .eql 9 true t15 (.sc (.string ⟨#[103,97,116,101]⟩)) fun t17=>
bF W R N E P x4 x6 fM cC t17 h) (
bF W R N E P x4 x6 fM cC aa h)
def bP:N5:=fun W R N E P x4 x6 fM eJ vU h=>
bE true fM (
aT eJ (.sc (.bool true)) vU fun t18=>
bM W R N E P x4 x6 fM t18 h) (
bM W R N E P x4 x6 fM aa h)
def bN:N4:=fun W R N E P x4 x6 fM eJ h=>
bE false eJ (
ah (some 0) x6 fun t19=>
al (some false) (some 1) t19 h fun t20 _=>
ag Pg .eql 9 true t20 (.sc (.string ⟨#[98,105,116,115]⟩)) fun t22=>
bP W R N E P x4 x6 fM eJ t22 h) (
bP W R N E P x4 x6 fM eJ aa h)
def bW:N3:=fun W R N E P x4 x6 fM h=>
bE true fM (
ah (some 0) x6 fun t23=>
al (some false) (some 1) t23 h fun t24 _=>
ag Pg .eql 9 true t24 (.sc (.string ⟨#[113,117,98,105,116,115]⟩)) fun t26=>
bN W R N E P x4 x6 fM t26 h) (
bN W R N E P x4 x6 fM aa h)
def bT:N3:=fun W R N E P x3 x4 x6 h=>
ag Pg .gtr 3 true x3 (.sc (.int .i64 0)) fun t27=>
bW W R N E P x4 x6 t27 h
def bX:N4:=fun W R N E P x3 x4 x6 gK h=>
aM gK (
n3 W R N E P h) (
bT W R N E P x3 x4 x6 h)
def cl:N3:=fun W R N E P x3 x4 x6 h=>
ag Pg .gtr 3 true x3 (.sc (.int .i64 32)) fun t28=>
bX W R N E P x3 x4 x6 t28 h
def cq:N4:=fun W R N E P x3 x4 x6 ax h=>
aM ax (
n2 W R N E P h) (
cl W R N E P x3 x4 x6 h)
def cL:N5:=fun W R N E P x3 x4 x6 eU io h=>
aT eU (.sc (.bool true)) io fun t29=>
cq W R N E P x3 x4 x6 t29 h
def cN:N5:=fun W R N E P x2 x3 x4 x6 eU h=>
bE false eU (
ah (some 4) x6 fun t30=>
al (some false) (some 1) t30 h fun t31 _=>
ag Pg .gtr 3 false t31 x2 fun t33=>
cL W R N E P x3 x4 x6 eU t33 h) (
cL W R N E P x3 x4 x6 eU aa h)
def cG:N6:=fun W R N E P x2 x3 x4 x6 eV Ez h=>
aT eV (.sc (.bool true)) Ez fun t34=>
cN W R N E P x2 x3 x4 x6 t34 h
def cE:N5:=fun W R N E P x2 x3 x4 x6 eV h=>
bE false eV (
ah (some 4) x6 fun t35=>
al (some false) (some 1) t35 h fun t36 _=>
ag Pg .lss 3 true t36 (.sc (.int .i64 0)) fun t38=>
cG W R N E P x2 x3 x4 x6 eV t38 h) (
cG W R N E P x2 x3 x4 x6 eV aa h)
def cV:N6:=fun W R N E P x2 x3 x4 x6 dM pR h=>
aT dM (.sc (.bool true)) pR fun t39=>
cE W R N E P x2 x3 x4 x6 t39 h
def cX:N7:=fun W R N E P x2 x3 x4 x6 dM lE ve h=>
bE false dM (
aT lE ve (.sc (.bool false)) fun t40=>
cV W R N E P x2 x3 x4 x6 dM t40 h) (
cV W R N E P x2 x3 x4 x6 dM aa h)
def cU:N6:=fun W R N E P x2 x3 x4 x6 dM lE h=>
bE true lE (
ah (some 4) x6 fun t41=>
al (some false) (some 1) t41 h fun t42 _=>
ag Pg .neq 3 true t42 (.sc (.int .i64 0)) fun t44=>
cX W R N E P x2 x3 x4 x6 dM lE t44 h) (
cX W R N E P x2 x3 x4 x6 dM lE aa h)
def dG:N5:=fun W R N E P x2 x3 x4 x6 dM h=>
bE false dM (
ah (some 0) x6 fun t45=>
al (some false) (some 1) t45 h fun t46 _=>
aC Pg W 89 [t46] h (fun t48 HZ=>
gM .not t48 fun t50=>
cU W R N E P x2 x3 x4 x6 dM t50 HZ) P) (
cU W R N E P x2 x3 x4 x6 dM aa h)
def dV:N4:=fun W R N E P x2 x3 x4 x6 h=>
ah (some 0) x6 fun t51=>
al (some false) (some 1) t51 h fun t52 _=>
aC Pg W 88 [t52] h (fun t54 FR=>
gM .not t54 fun t56=>
dG W R N E P x2 x3 x4 x6 t56 FR) P
def ea:N4:=fun W R N E P x1 x2 x3 x4 h=>
dS 6 46 x1 h fun t57 tJ=>
dV W R N E P x2 x3 x4 t57 tJ
theorem aO{x0 x1 x2 x3 x4:AV}{h:AH}{M:WK}{R:RK}(hp:ea (fun id=>M id\/h.next<=id) (aK Pg [.tmp 10] R) (aK Pg [.tmp 10] R) (fun _ _ _=>False) (fun v h=>R (.b6 v) h) x1 x2 x3 x4 h):aB Pg 66 [x0,x1,x2,x3,x4] h M R:=
 fin (n:=72) (pl:=[(1,⟨[(none,(fr 0 5)),(some (4,false),(fr 5 5)),(some (9,true),(fr 10 3)),(some (4,false),(fr 13 1)),(none,(fr 14 2)),(some (15,false),(fr 16 3)),(none,(fr 19 2)),(some (20,false),(fr 21 4)),(none,(fr 25 2))],false,[],[]⟩),(5,⟨[(none,(fr 0 3)),(some (2,true),(fr 3 4)),(some (6,false),(fr 7 3)),(some (2,true),(fr 10 2)),(some (11,false),(fr 12 3)),(some (2,true),(fr 15 1)),(none,(fr 16 2))],false,[],[]⟩),(7,⟨[(none,(fr 0 3)),(some (2,true),(fr 3 3)),(none,(fr 6 2)),(some (7,true),(fr 8 3)),(none,(fr 11 2))],false,[],[]⟩)]) (rs:=[.tmp 10]) (L:=rs) (fun c=>(a4 ea 1 2 3 4 c)) Tryz.mixed Tryz.func66 (fun c=>
(sq (a4 ea 1 2 3 4 c)
(sn
(sl (a0 n1 c))
(bk 0 (sn
(cd (a4 cq 3 4 6 11 c) (sl (a0 n2 c)) (sq (a3 cl 3 4 6 c)
(cd (a4 bX 3 4 6 38 c) (sl (a0 n3 c)) (sn
(cd (a3 ba 4 6 41 c) (sl (a0 n4 c)) (sn
(cd (a1 n6 59 c) (sl (a0 n5 c)) tr)
(gr (gn (a2 bc 4 6 c) (gx (a2 aZ 6 62 c) (gn (a3 n9 6 62 65 c) (gx (a2 n8 6 67 c) (gl (a2 n7 67 70 c)))))))))
(gr (gn (a3 bT 3 4 6 c) (gx (a3 bW 4 6 44 c) (gx (a4 bN 4 6 44 48 c) (gx (a5 bP 4 6 44 48 51 c) (gx (a4 bM 4 6 44 53 c) (gx (a5 bF 4 6 44 53 56 c) (gl (a4 br 4 6 44 57 c)))))))))))))
(gr (gn (a4 dV 2 3 4 6 c) (gx (a5 dG 2 3 4 6 16 c) (gx (a6 cU 2 3 4 6 16 21 c) (gx (a7 cX 2 3 4 6 16 21 24 c) (gn (a6 cV 2 3 4 6 16 25 c) (gx (a5 cE 2 3 4 6 27 c) (gn (a6 cG 2 3 4 6 27 30 c) (gx (a5 cN 2 3 4 6 32 c) (gl (a5 cL 3 4 6 32 36 c)))))))))))))))) hp
attribute [simp] n1 n2 n3 n4 n5 n6 n7 n8 n9 aZ bc ba br bF bM bP bN bW bT bX cl cq cL cN cG cE cV cX cU dG dV ea
end dj
namespace Rd
abbrev rs:List Nat:=[2]
def n1:N1:=fun W R _ _ P x0 h=>
aC Pg W 89 [x0] h (fun t1 h2=>
R [t1] h2) P
def n2:N0:=fun _ R _ _ _ h=>
R [(.sc (.bool true))] h
def n3:N2:=fun W R N E P x0 x4 h=>
aM x4 (
n2 W R N E P h) (
n1 W R N E P x0 h)
def n4:N3:=fun W R N E P x0 x3 x4 h=>
aM x4 (
n3 W R N E P x0 x4 h) (
ag Pg .eql 9 true x3 (.sc (.string ⟨#[114,101,115,101,116]⟩)) fun t3=>
n3 W R N E P x0 t3 h)
def n5:N2:=fun W R N E P x0 x3 h=>
ag Pg .eql 9 true x3 (.sc (.string ⟨#[109,101,97,115,117,114,101]⟩)) fun t4=>
n4 W R N E P x0 x3 t4 h
def n6:N3:=fun W R N E P x0 x3 x4 h=>
aM x4 (
n3 W R N E P x0 x4 h) (
n5 W R N E P x0 x3 h)
def n7:N2:=fun W R N E P x0 x3 h=>
ag Pg .eql 9 true x3 (.sc (.string ⟨#[117,115,101]⟩)) fun t5=>
n6 W R N E P x0 x3 t5 h
def n8:N3:=fun W R N E P x0 x3 x4 h=>
aM x4 (
n3 W R N E P x0 x4 h) (
n7 W R N E P x0 x3 h)
def n9:N2:=fun W R N E P x0 x3 h=>
ag Pg .eql 9 true x3 (.sc (.string ⟨#[98,105,116,115]⟩)) fun t6=>
n8 W R N E P x0 x3 t6 h
def aZ:N3:=fun W R N E P x0 x3 x4 h=>
aM x4 (
n3 W R N E P x0 x4 h) (
n9 W R N E P x0 x3 h)
def bc:N2:=fun W R N E P x0 x3 h=>
ag Pg .eql 9 true x3 (.sc (.string ⟨#[113,117,98,105,116,115]⟩)) fun t7=>
aZ W R N E P x0 x3 t7 h
def ba:N1:=fun W R N E P x0 h=>
bc W R N E P x0 x0 h
def br:N1:=fun W R N E P x0 h=>
ba W R N E P x0 h
theorem aO{x0:AV}{h:AH}{M:WK}{R:RK}(hp:br (fun id=>M id\/h.next<=id) (aK Pg [.tmp 2] R) (aK Pg [.tmp 2] R) (fun _ _ _=>False) (fun v h=>R (.b6 v) h) x0 h):aB Pg 88 [x0] h M R:=
 fin (n:=12) (pl:=[]) (rs:=[.tmp 2]) (L:=rs) (fun c=>(a1 br 0 c)) Tryz.mixed Tryz.func88 (fun c=>
(sq (a1 br 0 c)
(sn
(sl (a1 n1 0 c))
(sq (a1 ba 0 c)
(bk 0 (sn
(cd (a2 n3 0 4 c) (sl (a0 n2 c)) tr)
(sq (a2 bc 0 3 c)
(cd (a3 aZ 0 3 4 c) tr (sq (a2 n9 0 3 c)
(cd (a3 n8 0 3 4 c) tr (sq (a2 n7 0 3 c)
(cd (a3 n6 0 3 4 c) tr (sq (a2 n5 0 3 c)
(cd (a3 n4 0 3 4 c) tr tr)))))))))))))) hp
attribute [simp] n1 n2 n3 n4 n5 n6 n7 n8 n9 aZ bc ba br
end Rd
namespace Z8
abbrev rs:List Nat:=[2]
def n1:N1:=fun _ R _ _ _ x2 h=>
R [x2] h
def n2:N2:=fun W R N E P x9 ax h=>
aT x9 (.sc (.bool true)) ax fun t1=>
n1 W R N E P t1 h
def n3:N2:=fun W R N E P x0 x9 h=>
bE false x9 (
ag Pg .eql 9 true x0 (.sc (.string ⟨#[105,102]⟩)) fun t2=>
n2 W R N E P x9 t2 h) (
n2 W R N E P x9 aa h)
def n4:N3:=fun W R N E P x0 x5 x7 h=>
aT x5 (.sc (.bool true)) x7 fun t3=>
n3 W R N E P x0 t3 h
def n5:N2:=fun W R N E P x0 x5 h=>
bE false x5 (
ag Pg .eql 9 true x0 (.sc (.string ⟨#[114,101,112,101,97,116]⟩)) fun t4=>
n4 W R N E P x0 x5 t4 h) (
n4 W R N E P x0 x5 aa h)
def n6:N1:=fun W R N E P x0 h=>
ag Pg .eql 9 true x0 (.sc (.string ⟨#[103,97,116,101]⟩)) fun t5=>
n5 W R N E P x0 t5 h
def n7:N1:=fun W R N E P x0 h=>
n6 W R N E P x0 h
theorem aO{x0:AV}{h:AH}{M:WK}{R:RK}(hp:n7 (fun id=>M id\/h.next<=id) (aK Pg [.tmp 2] R) (aK Pg [.tmp 2] R) (fun _ _ _=>False) (fun v h=>R (.b6 v) h) x0 h):aB Pg 89 [x0] h M R:=
 fin (n:=13) (pl:=[(1,⟨[(none,(fr 0 3)),(some (2,false),(fr 3 2)),(none,(fr 5 2)),(some (6,false),(fr 7 2)),(none,(fr 9 2))],false,[],[]⟩)]) (rs:=[.tmp 2]) (L:=rs) (fun c=>(a1 n7 0 c)) Tryz.mixed Tryz.func89 (fun c=>
(sq (a1 n7 0 c)
(sn
(sm (a1 n1 2 c))
(gr (gn (a1 n6 0 c) (gx (a2 n5 0 5 c) (gn (a3 n4 0 5 7 c) (gx (a2 n3 0 9 c) (gl (a2 n2 9 11 c)))))))))) hp
attribute [simp] n1 n2 n3 n4 n5 n6 n7
end Z8
namespace iG
abbrev rs:List Nat:=[10]
def n1:N0:=fun _ R _ _ _ h=>
R [(.sc (.int .i64 0))] h
def n2:N2:=fun W R N E P x3 x6 h=>
aY x3 fun t1=>
al (some false) (some 1) t1 h fun t2 _=>
ah (some 3) x6 fun t4=>
al (some false) (some 1) t4 h fun t5 _=>
ag Pg .add 3 false t2 t5 fun t7=>
aY x3 fun t8=>
aE (some 1) t8 t7 h W fun h9=>
n1 W R N E P h9
def n3:N3:=fun W R N E P x2 x3 x6 h=>
ah (some 1) x6 fun t10=>
al (some false) (some 1) t10 h fun t11 _=>
aY x3 fun t13=>
al (some false) (some 1) t13 h fun t14 _=>
ah (some 3) x6 fun t16=>
al (some false) (some 1) t16 h fun t17 _=>
bZ (some ([.int .i64 0,.int .i64 0],.inl [(0,1),(1,1)])) [(0,t14),(1,t17)] fun t19=>
dI Pg (some (9,56)) x2 t11 t19 h W fun vJ=>
n2 W R N E P x3 x6 vJ
def n4:N0:=fun _ R _ _ _ h=>
R [(.sc (.int .i64 110))] h
def n5:N0:=fun _ R _ _ _ h=>
R [(.sc (.int .i64 112))] h
def n6:N0:=fun _ R _ _ _ h=>
R [(.sc (.int .i64 1))] h
def n7:N4:=fun W R N E P x2 x3 x6 tn h=>
aM tn (
n6 W R N E P h) (
n3 W R N E P x2 x3 x6 h)
def n8:N4:=fun W R N E P x2 x3 x4 x6 h=>
ah (some 3) x6 fun t21=>
al (some false) (some 1) t21 h fun t22 _=>
aY x3 fun t24=>
al (some false) (some 1) t24 h fun t25 _=>
ag Pg .sub 3 false x4 t25 fun t27=>
ag Pg .gtr 3 false t22 t27 fun t28=>
n7 W R N E P x2 x3 x6 t28 h
def n9:N5:=fun W R N E P x2 x3 x4 x6 dM h=>
aM dM (
n5 W R N E P h) (
n8 W R N E P x2 x3 x4 x6 h)
def aZ:N4:=fun W R N E P x2 x3 x4 x6 h=>
ah (some 3) x6 fun t29=>
al (some false) (some 1) t29 h fun t30 _=>
ag Pg .lss 3 true t30 (.sc (.int .i64 1)) fun t32=>
n9 W R N E P x2 x3 x4 x6 t32 h
def bc:N5:=fun W R N E P x2 x3 x4 x6 ax h=>
aM ax (
n4 W R N E P h) (
aZ W R N E P x2 x3 x4 x6 h)
def ba:N5:=fun W R N E P x0 x2 x3 x4 x6 h=>
ah (some 1) x6 fun t33=>
al (some false) (some 1) t33 h fun t34 _=>
aC Pg W 113 [x0,t34] h (fun t36 vF=>
bc W R N E P x2 x3 x4 x6 t36 vF) P
def br:N5:=fun W R N E P x0 x1 x2 x3 x4 h=>
dS 6 46 x1 h fun t38 yO=>
ba W R N E P x0 x2 x3 x4 t38 yO
theorem aO{x0 x1 x2 x3 x4:AV}{h:AH}{M:WK}{R:RK}(hp:br (fun id=>M id\/h.next<=id) (aK Pg [.tmp 10] R) (aK Pg [.tmp 10] R) (fun _ _ _=>False) (fun v h=>R (.b6 v) h) x0 x1 x2 x3 x4 h):aB Pg 90 [x0,x1,x2,x3,x4] h M R:=
 fin (n:=45) (pl:=[(5,⟨[(none,(fr 0 9))],false,[],[]⟩),(7,⟨[(none,(fr 0 10))],false,[],[]⟩),(8,⟨[(none,(fr 0 8))],false,[],[]⟩)]) (rs:=[.tmp 10]) (L:=rs) (fun c=>(a5 br 0 1 2 3 4 c)) Tryz.mixed Tryz.func90 (fun c=>
(sq (a5 br 0 1 2 3 4 c)
(sn
(sq (a3 n3 2 3 6 c)
(sq (a2 n2 3 6 c)
(sl (a0 n1 c))))
(bk 0 (sq (a5 ba 0 2 3 4 6 c)
(cd (a5 bc 2 3 4 6 11 c) (sl (a0 n4 c)) (sq (a4 aZ 2 3 4 6 c)
(cd (a5 n9 2 3 4 6 16 c) (sl (a0 n5 c)) (sq (a4 n8 2 3 4 6 c)
(cd (a4 n7 2 3 6 20 c) (sl (a0 n6 c)) tr)))))))))) hp
attribute [simp] n1 n2 n3 n4 n5 n6 n7 n8 n9 aZ bc ba br
end iG
namespace fl
abbrev rs:List Nat:=[6]
def n1:N0:=fun _ R _ _ _ h=>
R [(.sc (.int .i64 0))] h
def n2:N3:=fun W R N E P x0 x4 x7 h=>
aY x0 fun t1=>
ah (some 3) t1 fun t2=>
al (some false) (some 1) t2 h fun t3 _=>
ah (some 1) x4 fun t5=>
al (some false) (some 1) t5 h fun t6 _=>
dI Pg (some (9,122)) t3 t6 x7 h W fun h8=>
n1 W R N E P h8
def n3:N7:=fun _ _ N _ _ x0 x4 x7 au jB eJ je h=>
ag Pg .add 3 true je (.sc (.int .i64 1)) fun t9=>
N [x0,x4,x7,au,jB,eJ,t9] h
def n4:N8:=fun W R N E P x0 x4 x7 au aP jB eJ je h=>
aY x7 fun t10=>
ah (some 1) t10 fun t11=>
al (some false) (some 1) t11 h fun t12 _=>
ah (some 0) aP fun t14=>
al (some false) (some 1) t14 h fun t15 _=>
dK (some (1,9,[.string ⟨#[]⟩])) 1 [(0,t15)] h fun t17 vN=>
eh (some (1,16,9)) t12 t17 vN W fun t19 vJ=>
aY x7 fun t21=>
ah (some 1) t21 fun t22=>
aE (some 1) t22 t19 vJ W fun DB=>
n3 W R N E P x0 x4 x7 au jB eJ je DB
def n5:N9:=fun W R N E P x0 x4 x7 au ax aP jB eJ je h=>
ah (some 0) aP fun t24=>
al (some false) (some 1) t24 h fun t25 _=>
dI Pg (some (9,3)) au t25 ax h W fun yR=>
n4 W R N E P x0 x4 x7 au aP jB eJ je yR
def n6:N0:=fun _ R _ _ _ h=>
R [(.sc (.int .i64 113))] h
def n7:tS:=fun W R N E P x0 x4 x7 au ax aP jB eJ je kV h=>
aM kV (
n6 W R N E P h) (
n5 W R N E P x0 x4 x7 au ax aP jB eJ je h)
def n8:tS:=fun W R N E P x0 x4 x7 au ax aP bV jB eJ je h=>
n7 W R N E P x0 x4 x7 au ax aP jB eJ je bV h
def n9:N9:=fun W R N E P x0 x4 x7 au ax aP jB eJ je h=>
ah (some 0) aP fun t28=>
al (some false) (some 1) t28 h fun t29 _=>
fC Pg (some (9,3)) au t29 true h fun t31 _=>
cf t31 0 fun t33=>
cf t31 1 fun t34=>
n8 W R N E P x0 x4 x7 au ax aP t34 jB eJ je h
def aZ:N7:=fun W R N E P x0 x4 x7 au jB eJ je h=>
cj (some (2,none)) jB je fun t35=>
al (some true) (some 2) t35 h fun t36 _=>
bn (some [.string ⟨#[]⟩,.int .i64 0]) 2 67 h fun t38 yO=>
aE (some 2) t38 t36 yO W fun QO=>
n9 W R N E P x0 x4 x7 au je t38 jB eJ je QO
def bc:N8:=fun W R N E P x0 x4 x7 au jB eJ je tl h=>
aM tl (
aZ W R N E P x0 x4 x7 au jB eJ je h) (
E 2 [x0,x4,x7] h)
def ba:N7:=fun W R N E P x0 x4 x7 au jB eJ je h=>
ag Pg .lss 3 false je eJ fun t41=>
bc W R N E P x0 x4 x7 au jB eJ je t41 h
def cT:GK:=fun W R N E P N' vs h=>ba W R N' (fun(i:Nat) (vs:List AV) (h:AH)=>if i=2 then n2 W R N E P (vs.getD 0 aa) (vs.getD 1 aa) (vs.getD 2 aa) h else E i vs h) P (vs.getD 0 aa) (vs.getD 1 aa) (vs.getD 2 aa) (vs.getD 3 aa) (vs.getD 4 aa) (vs.getD 5 aa) (vs.getD 6 aa) h
def br:N7:=fun W R N E P x0 x4 x7 au jB eJ je h=>
dT (cT W R N E P) [x0,x4,x7,au,jB,eJ,je] h
def bF:N4:=fun W R N E P x0 x4 x7 au h=>
ah (some 2) x4 fun t42=>
al (some false) (some 1) t42 h fun t43 _=>
(a_ t43=false)/\bO t43 fun t45=>
br W R N E P x0 x4 x7 au t43 t45 (.sc (.int .i64 0)) h
def bM:N3:=fun W R N E P x0 x4 x7 h=>
qq 157 h fun t46 vD=>
bF W R N E P x0 x4 x7 t46 vD
def bP:N6:=fun _ _ N _ _ x0 x4 x7 oF io fA h=>
ag Pg .add 3 true fA (.sc (.int .i64 1)) fun t48=>
N [x0,x4,x7,oF,io,t48] h
def bN:N0:=fun _ R _ _ _ h=>
R [(.sc (.int .i64 112))] h
def bW:N7:=fun W R N E P x0 x4 x7 oF io fA iS h=>
aM iS (
bN W R N E P h) (
bP W R N E P x0 x4 x7 oF io fA h)
def bT:N7:=fun W R N E P x0 x4 x7 x9 oF io fA h=>
ah (some 1) x9 fun t49=>
al (some false) (some 1) t49 h fun t50 _=>
ag Pg .neq 3 true t50 (.sc (.int .i64 (-1))) fun t52=>
bW W R N E P x0 x4 x7 oF io fA t52 h
def bX:N6:=fun W R N E P x0 x4 x7 oF io fA h=>
cj (some (2,none)) oF fA fun t53=>
al (some true) (some 2) t53 h fun t54 _=>
bn (some [.string ⟨#[]⟩,.int .i64 0]) 2 67 h fun t56 BB=>
aE (some 2) t56 t54 BB W fun tJ=>
bT W R N E P x0 x4 x7 t56 oF io fA tJ
def cl:N7:=fun W R N E P x0 x4 x7 oF io fA gK h=>
aM gK (
bX W R N E P x0 x4 x7 oF io fA h) (
E 0 [x0,x4,x7] h)
def cq:N6:=fun W R N E P x0 x4 x7 oF io fA h=>
ag Pg .lss 3 false fA io fun t59=>
cl W R N E P x0 x4 x7 oF io fA t59 h
def ju:GK:=fun W R N E P N' vs h=>cq W R N' (fun(i:Nat) (vs:List AV) (h:AH)=>if i=0 then bM W R N E P (vs.getD 0 aa) (vs.getD 1 aa) (vs.getD 2 aa) h else E i vs h) P (vs.getD 0 aa) (vs.getD 1 aa) (vs.getD 2 aa) (vs.getD 3 aa) (vs.getD 4 aa) (vs.getD 5 aa) h
def cL:N6:=fun W R N E P x0 x4 x7 oF io fA h=>
dT (ju W R N E P) [x0,x4,x7,oF,io,fA] h
def cN:N3:=fun W R N E P x0 x4 x7 h=>
ah (some 2) x4 fun t60=>
al (some false) (some 1) t60 h fun t61 _=>
(a_ t61=false)/\bO t61 fun t63=>
cL W R N E P x0 x4 x7 t61 t63 (.sc (.int .i64 0)) h
def cG:N3:=fun W R N E P x0 x2 x4 h=>
ah (some 1) x4 fun t64=>
al (some false) (some 1) t64 h fun t65 _=>
ag Pg .add 3 true x2 (.sc (.int .i64 1)) fun t67=>
ag Pg .add 3 true x2 (.sc (.int .i64 1)) fun t68=>
ah (some 4) x4 fun t69=>
al (some false) (some 1) t69 h fun t70 _=>
ag Pg .add 3 false t68 t70 fun t72=>
bZ (some ([.string ⟨#[]⟩,.slice none 0 0,.int .i64 0,.int .i64 0,.int .i64 0,.int .i64 0,.bool false],.inl [(0,1),(1,1),(2,1),(3,1),(4,1),(5,1),(6,1)])) [(0,t65),(2,t67),(3,t72),(4,(.sc (.int .i64 1)))] fun t73=>
dS 7 127 t73 h fun t74 LY=>
cN W R N E P x0 x4 t74 LY
def cE:N0:=fun _ R _ _ _ h=>
R [(.sc (.int .i64 111))] h
def cV:N4:=fun W R N E P x0 x2 x4 x22 h=>
aM x22 (
cE W R N E P h) (
cG W R N E P x0 x2 x4 h)
def cX:N3:=fun W R N E P x0 x2 x4 h=>
ah (some 2) x4 fun t76=>
al (some false) (some 1) t76 h fun t77 _=>
(a_ t77=false)/\bO t77 fun t79=>
ag Pg .eql 3 true t79 (.sc (.int .i64 0)) fun t80=>
cV W R N E P x0 x2 x4 t80 h
def cU:N0:=fun _ R _ _ _ h=>
R [(.sc (.int .i64 110))] h
def dG:N4:=fun W R N E P x0 x2 x4 EA h=>
aM EA (
cU W R N E P h) (
cX W R N E P x0 x2 x4 h)
def dV:N3:=fun W R N E P x0 x2 x4 h=>
ah (some 1) x4 fun t81=>
al (some false) (some 1) t81 h fun t82 _=>
aC Pg W 113 [x0,t82] h (fun t84 Bx=>
dG W R N E P x0 x2 x4 t84 Bx) P
def ea:N3:=fun W R N E P x0 x1 x2 h=>
dS 6 46 x1 h fun t86 VY=>
dV W R N E P x0 x2 t86 VY
theorem aO{x0 x1 x2:AV}{h:AH}{M:WK}{R:RK}(hp:ea (fun id=>M id\/h.next<=id) (aK Pg [.tmp 6] R) (aK Pg [.tmp 6] R) (fun _ _ _=>False) (fun v h=>R (.b6 v) h) x0 x1 x2 h):aB Pg 91 [x0,x1,x2] h M R:=
 fin (n:=85) (pl:=[(20,⟨[(none,(fr 0 12))],false,[],[]⟩),(22,⟨[(none,(fr 0 8))],false,[],[]⟩)]) (rs:=[.tmp 6]) (L:=rs) (fun c=>(a3 ea 0 1 2 c)) Tryz.mixed Tryz.func91 (fun c=>
(sq (a3 ea 0 1 2 c)
(sn
(sn
(sq (a3 cG 0 2 4 c)
(sn
(sq (a3 bM 0 4 7 c)
(sn
(sq (a3 n2 0 4 7 c)
(sl (a0 n1 c)))
(sq (a4 bF 0 4 7 10 c)
(bk 2 (lp [0,4,7,10,47,48,49] rs [(2,[0,4,7])] (a7 br 0 4 7 10 47 48 49 c) cT (fun i vs h=>if i=2 then n2 c.W c.R c.N c.E c.P (vs.getD 0 aa) (vs.getD 1 aa) (vs.getD 2 aa) h else c.E i vs h) (.b (.t .o)) fun c=>
(sq (a7 ba 0 4 7 10 47 48 49 c)
(sn
(sn
(sm (a7 n3 0 4 7 10 47 48 49 c))
(bk 3 (sq (a7 aZ 0 4 7 10 47 48 49 c)
(sn
(sq (a9 n5 0 4 7 10 11 12 47 48 49 c)
(sm (a8 n4 0 4 7 10 12 47 48 49 c)))
(sq (a9 n9 0 4 7 10 11 12 47 48 49 c)
(sq (sQ n8 0 4 7 10 11 12 14 47 48 49 c)
(cd (sQ n7 0 4 7 10 11 12 47 48 49 61 c) (sl (a0 n6 c)) tr)))))))
(cd (a8 bc 0 4 7 10 47 48 49 50 c) tr tr))))))))
(sq (a3 cN 0 4 7 c)
(bk 0 (lp [0,4,7,35,36,37] rs [(0,[0,4,7])] (a6 cL 0 4 7 35 36 37 c) ju (fun i vs h=>if i=0 then bM c.W c.R c.N c.E c.P (vs.getD 0 aa) (vs.getD 1 aa) (vs.getD 2 aa) h else c.E i vs h) (.b (.t .o)) fun c=>
(sq (a6 cq 0 4 7 35 36 37 c)
(sn
(sn
(sm (a6 bP 0 4 7 35 36 37 c))
(bk 1 (sq (a6 bX 0 4 7 35 36 37 c)
(sq (a7 bT 0 4 7 9 35 36 37 c)
(cd (a7 bW 0 4 7 35 36 37 43 c) (sl (a0 bN c)) tr)))))
(cd (a7 cl 0 4 7 35 36 37 38 c) tr tr))))))))
(sq (a3 cX 0 2 4 c)
(cd (a4 cV 0 2 4 22 c) (sl (a0 cE c)) tr)))
(sq (a3 dV 0 2 4 c)
(cd (a4 dG 0 2 4 18 c) (sl (a0 cU c)) tr))))) hp
attribute [simp] n1 n2 n3 n4 n5 n6 n7 n8 n9 aZ bc ba bF bM bP bN bW bT bX cl cq cN cG cE cV cX cU dG dV ea
end fl
namespace ci
abbrev rs:List Nat:=[6]
def n1:N0:=fun _ R _ _ _ h=>
R [(.sc (.int .i64 0))] h
def n2:N2:=fun W R N E P x2 x8 h=>
aY x2 fun t1=>
ah (some 4) t1 fun t2=>
al (some false) (some 1) t2 h fun t3 _=>
ag Pg .add 3 true x8 (.sc (.int .i64 1)) fun t5=>
vi false t3 t5 fun t6=>
aY x2 fun t7=>
ah (some 4) t7 fun t8=>
aE (some 1) t8 t6 h W fun h9=>
n1 W R N E P h9
def n3:N0:=fun _ R _ _ _ h=>
R [(.sc (.int .i64 102))] h
def n4:N3:=fun W R N E P x2 x8 aah h=>
aM aah (
n3 W R N E P h) (
n2 W R N E P x2 x8 h)
def n5:N2:=fun W R N E P x2 x8 h=>
ag Pg .add 3 true x8 (.sc (.int .i64 1)) fun t10=>
ag Pg .gtr 3 true t10 (.sc (.int .i64 32)) fun t11=>
n4 W R N E P x2 x8 t11 h
def n6:N3:=fun W R N E P x2 x8 aai h=>
aM aai (
n5 W R N E P x2 x8 h) (
n1 W R N E P h)
def n7:N2:=fun W R N E P x2 x8 h=>
ag Pg .neq 122 true x2 (.sc (.pointer none)) fun t12=>
n6 W R N E P x2 x8 t12 h
def n8:N6:=fun _ _ N _ _ x2 x8 bV gg gp iZ h=>
ag Pg .add 3 true iZ (.sc (.int .i64 1)) fun t13=>
N [x2,x8,bV,gg,gp,t13] h
def n9:N8:=fun W R N E P x2 x8 bV dD dM gg gp iZ h=>
al (some true) (some 2) dM h fun t14 _=>
dI Pg (some (67,3)) bV t14 dD h W fun mz=>
n8 W R N E P x2 x8 bV gg gp iZ mz
def aZ:N0:=fun _ R _ _ _ h=>
R [(.sc (.int .i64 113))] h
def bc:N9:=fun W R N E P x2 x8 bV dD dM gg gp iZ aak h=>
aM aak (
aZ W R N E P h) (
n9 W R N E P x2 x8 bV dD dM gg gp iZ h)
def ba:N9:=fun W R N E P x2 x8 bV dD dM EA gg gp iZ h=>
bc W R N E P x2 x8 bV dD dM gg gp iZ EA h
def br:N8:=fun W R N E P x2 x8 bV dD dM gg gp iZ h=>
al (some true) (some 2) dM h fun t17 _=>
fC Pg (some (67,3)) bV t17 true h fun t19 _=>
cf t19 0 fun t21=>
cf t19 1 fun t22=>
ba W R N E P x2 x8 bV dD dM t22 gg gp iZ h
def bF:N6:=fun W R N E P x2 x8 bV gg gp iZ h=>
cj (some (2,none)) gg iZ fun t23=>
al (some true) (some 2) t23 h fun t24 _=>
bn (some [.string ⟨#[]⟩,.int .i64 0]) 2 67 h fun t26 yR=>
aE (some 2) t26 t24 yR W fun sF=>
br W R N E P x2 x8 bV iZ t26 gg gp iZ sF
def bM:N7:=fun W R N E P x2 x8 bV gg gp iZ ze h=>
aM ze (
bF W R N E P x2 x8 bV gg gp iZ h) (
E 2 [x2,x8] h)
def bP:N6:=fun W R N E P x2 x8 bV gg gp iZ h=>
ag Pg .lss 3 false iZ gp fun t29=>
bM W R N E P x2 x8 bV gg gp iZ t29 h
def cT:GK:=fun W R N E P N' vs h=>bP W R N' (fun(i:Nat) (vs:List AV) (h:AH)=>if i=2 then n7 W R N E P (vs.getD 0 aa) (vs.getD 1 aa) h else E i vs h) P (vs.getD 0 aa) (vs.getD 1 aa) (vs.getD 2 aa) (vs.getD 3 aa) (vs.getD 4 aa) (vs.getD 5 aa) h
def bN:N6:=fun W R N E P x2 x8 bV gg gp iZ h=>
dT (cT W R N E P) [x2,x8,bV,gg,gp,iZ] h
def bW:N4:=fun W R N E P x2 x4 x8 bV h=>
ah (some 2) x4 fun t30=>
al (some false) (some 1) t30 h fun t31 _=>
(a_ t31=false)/\bO t31 fun t33=>
bN W R N E P x2 x8 bV t31 t33 (.sc (.int .i64 0)) h
def bT:N3:=fun W R N E P x2 x4 x8 h=>
qq 173 h fun t34 tK=>
bW W R N E P x2 x4 x8 t34 tK
def bX:N7:=fun _ _ N _ _ x0 x2 x4 x8 gT fy gJ h=>
ag Pg .add 3 true gJ (.sc (.int .i64 1)) fun t36=>
N [x0,x2,x4,x8,gT,fy,t36] h
def cl:N0:=fun _ R _ _ _ h=>
R [(.sc (.int .i64 110))] h
def cq:N8:=fun W R N E P x0 x2 x4 x8 gT fy gJ Tl h=>
aM Tl (
cl W R N E P h) (
bX W R N E P x0 x2 x4 x8 gT fy gJ h)
def cL:N8:=fun W R N E P x0 x2 x4 x8 aP gT fy gJ h=>
aY x2 fun t37=>
ah (some 1) t37 fun t38=>
al (some false) (some 1) t38 h fun t39 _=>
ah (some 0) aP fun t41=>
al (some false) (some 1) t41 h fun t42 _=>
aC Pg yn 114 [t39,t42] h (fun t44 Dz=>
gM .not t44 fun t46=>
cq W R N E P x0 x2 x4 x8 gT fy gJ t46 Dz) P
def cN:N0:=fun _ R _ _ _ h=>
R [(.sc (.int .i64 112))] h
def cG:N9:=fun W R N E P x0 x2 x4 x8 aP gT fy gJ Et h=>
aM Et (
cN W R N E P h) (
cL W R N E P x0 x2 x4 x8 aP gT fy gJ h)
def cE:N8:=fun W R N E P x0 x2 x4 x8 aP gT fy gJ h=>
ah (some 1) aP fun t47=>
al (some false) (some 1) t47 h fun t48 _=>
ag Pg .neq 3 true t48 (.sc (.int .i64 (-1))) fun t50=>
cG W R N E P x0 x2 x4 x8 aP gT fy gJ t50 h
def cV:N7:=fun W R N E P x0 x2 x4 x8 gT fy gJ h=>
bX W R N E P x0 x2 x4 x8 gT fy gJ h
def cX:N1:=fun _ R _ _ _ aR h=>
R [aR] h
def cU:N9:=fun W R N E P x0 x2 x4 x8 aR gT fy gJ J0 h=>
aM J0 (
cX W R N E P aR h) (
cV W R N E P x0 x2 x4 x8 gT fy gJ h)
def dG:N8:=fun W R N E P x0 x2 x4 x8 aR gT fy gJ h=>
ag Pg .neq 28 true aR (.sc (.int .i64 0)) fun t51=>
cU W R N E P x0 x2 x4 x8 aR gT fy gJ t51 h
def dV:N8:=fun W R N E P x0 x2 x4 x8 aP gT fy gJ h=>
aY x0 fun t52=>
ah (some 1) t52 fun t53=>
al (some false) (some 1) t53 h fun t54 _=>
al (some true) (some 2) aP h fun t56 _=>
aC Pg yn 93 [t54,t56] h (fun t58 L5=>
dG W R N E P x0 x2 x4 x8 t58 gT fy gJ L5) P
def ea:N9:=fun W R N E P x0 x2 x4 x8 aP gT fy gJ Tp h=>
aM Tp (
dV W R N E P x0 x2 x4 x8 aP gT fy gJ h) (
cE W R N E P x0 x2 x4 x8 aP gT fy gJ h)
def fq:N8:=fun W R N E P x0 x2 x4 x8 aP gT fy gJ h=>
ag Pg .eql 122 true x2 (.sc (.pointer none)) fun t60=>
ea W R N E P x0 x2 x4 x8 aP gT fy gJ t60 h
def jp:N7:=fun W R N E P x0 x2 x4 x8 gT fy gJ h=>
cj (some (2,none)) gT gJ fun t61=>
al (some true) (some 2) t61 h fun t62 _=>
bn (some [.string ⟨#[]⟩,.int .i64 0]) 2 67 h fun t64 V1=>
aE (some 2) t64 t62 V1 W fun L2=>
fq W R N E P x0 x2 x4 x8 t64 gT fy gJ L2
def jD:N8:=fun W R N E P x0 x2 x4 x8 gT fy gJ qZ h=>
aM qZ (
jp W R N E P x0 x2 x4 x8 gT fy gJ h) (
E 0 [x2,x4,x8] h)
def ir:N7:=fun W R N E P x0 x2 x4 x8 gT fy gJ h=>
ag Pg .lss 3 false gJ fy fun t67=>
jD W R N E P x0 x2 x4 x8 gT fy gJ t67 h
def ju:GK:=fun W R N E P N' vs h=>ir W R N' (fun(i:Nat) (vs:List AV) (h:AH)=>if i=0 then bT W R N E P (vs.getD 0 aa) (vs.getD 1 aa) (vs.getD 2 aa) h else E i vs h) P (vs.getD 0 aa) (vs.getD 1 aa) (vs.getD 2 aa) (vs.getD 3 aa) (vs.getD 4 aa) (vs.getD 5 aa) (vs.getD 6 aa) h
def jC:N7:=fun W R N E P x0 x2 x4 x8 gT fy gJ h=>
dT (ju W R N E P) [x0,x2,x4,x8,gT,fy,gJ] h
def iV:N4:=fun W R N E P x0 x2 x4 x8 h=>
ah (some 2) x4 fun t68=>
al (some false) (some 1) t68 h fun t69 _=>
(a_ t69=false)/\bO t69 fun t71=>
jC W R N E P x0 x2 x4 x8 t69 t71 (.sc (.int .i64 0)) h
def j_:N0:=fun _ R _ _ _ h=>
R [(.sc (.int .i64 111))] h
def iq:N5:=fun W R N E P x0 x2 x4 x8 Tq h=>
aM Tq (
j_ W R N E P h) (
iV W R N E P x0 x2 x4 x8 h)
def iN:N5:=fun W R N E P x0 x2 x4 x7 x8 h=>
ah (some 2) x4 fun t72=>
al (some false) (some 1) t72 h fun t73 _=>
(a_ t73=false)/\bO t73 fun t75=>
ag Pg .neq 3 false t75 x7 fun t76=>
iq W R N E P x0 x2 x4 x8 t76 h
def jN:N0:=fun _ R _ _ _ h=>
R [(.sc (.int .i64 80))] h
def jo:N6:=fun W R N E P x0 x2 x4 x7 x8 mI h=>
aM mI (
jN W R N E P h) (
iN W R N E P x0 x2 x4 x7 x8 h)
def jf:N5:=fun W R N E P x0 x2 x4 x7 x8 h=>
ag Pg .eql 3 true x7 (.sc (.int .i64 0)) fun t77=>
jo W R N E P x0 x2 x4 x7 x8 t77 h
def kJ:N7:=fun W R N E P x0 x2 x4 x7 x8 x9 je h=>
aM je (
aY x9 fun t78=>
ah (some 1) t78 fun t79=>
al (some false) (some 1) t79 h fun t80 _=>
(a_ t80=false)/\bO t80 fun t82=>
aY x9 fun t83=>
ah (some 4) t83 fun t84=>
al (some false) (some 1) t84 h fun t85 _=>
jf W R N E P x0 x2 x4 t82 t85 h) (
jf W R N E P x0 x2 x4 x7 x8 h)
def mw:N8:=fun W R N E P x0 x2 x4 x7 x8 x9 fM eJ h=>
aT fM eJ (.sc (.bool false)) fun t87=>
kJ W R N E P x0 x2 x4 x7 x8 x9 t87 h
def si:N7:=fun W R N E P x0 x2 x4 x7 x8 x9 fM h=>
bE true fM (
aY x9 fun t88=>
ah (some 6) t88 fun t89=>
al (some false) (some 1) t89 h fun t90 _=>
mw W R N E P x0 x2 x4 x7 x8 x9 fM t90 h) (
mw W R N E P x0 x2 x4 x7 x8 x9 fM aa h)
def qv:N7:=fun W R N E P x0 x2 x4 x7 x8 x9 au h=>
si W R N E P x0 x2 x4 x7 x8 x9 au h
def km:N5:=fun W R N E P x0 x2 x4 x7 x8 h=>
aY x0 fun t92=>
ah (some 3) t92 fun t93=>
al (some false) (some 1) t93 h fun t94 _=>
ah (some 1) x4 fun t96=>
al (some false) (some 1) t96 h fun t97 _=>
fC Pg (some (9,122)) t94 t97 true h fun t99 _=>
cf t99 0 fun t101=>
cf t99 1 fun t102=>
qv W R N E P x0 x2 x4 x7 x8 t101 t102 h
def yq:N3:=fun W R N E P x0 x2 x4 h=>
ah (some 1) x4 fun t103=>
al (some false) (some 1) t103 h fun t104 _=>
aC Pg W 44 [t104] h (fun t106 acq=>
km W R N E P x0 x2 x4 t106 (.sc (.int .i64 0)) acq) P
def C3:N0:=fun _ R _ _ _ h=>
R [(.sc (.int .i64 114))] h
def yp:N4:=fun W R N E P x0 x2 x4 ic h=>
aM ic (
C3 W R N E P h) (
yq W R N E P x0 x2 x4 h)
def vk:N5:=fun W R N E P x0 x2 x4 lE j9 h=>
aT lE j9 (.sc (.bool false)) fun t108=>
yp W R N E P x0 x2 x4 t108 h
def wA:N4:=fun W R N E P x0 x2 x4 lE h=>
bE true lE (
ah (some 1) x4 fun t109=>
al (some false) (some 1) t109 h fun t110 _=>
aY x2 fun t112=>
ah (some 0) t112 fun t113=>
al (some false) (some 1) t113 h fun t114 _=>
ag Pg .eql 9 false t110 t114 fun t116=>
vk W R N E P x0 x2 x4 lE t116 h) (
vk W R N E P x0 x2 x4 lE aa h)
def A_:N3:=fun W R N E P x0 x2 x4 h=>
ag Pg .neq 122 true x2 (.sc (.pointer none)) fun t117=>
wA W R N E P x0 x2 x4 t117 h
def A9:N3:=fun W R N E P x0 x1 x2 h=>
dS 6 46 x1 h fun t118 Oj=>
A_ W R N E P x0 x2 t118 Oj
theorem aO{x0 x1 x2:AV}{h:AH}{M:WK}{R:RK}(hp:A9 (fun id=>M id\/h.next<=id) (aK Pg [.tmp 6] R) (aK Pg [.tmp 6] R) (fun _ _ _=>False) (fun v h=>R (.b6 v) h) x0 x1 x2 h):aB Pg 92 [x0,x1,x2] h M R:=
 fin (n:=131) (pl:=[(1,⟨[(none,(fr 0 3)),(some (2,true),(fr 3 7)),(none,(fr 10 1))],false,[],[]⟩),(4,⟨[(none,(fr 0 12))],false,[],[]⟩),(5,⟨[(none,(fr 0 2)),(some (1,true),(fr 2 4)),(none,(fr 6 1))],false,[],[]⟩),(6,⟨[(none,(fr 0 11))],false,[],[]⟩),(15,⟨[(none,(fr 0 7))],false,[],[5]⟩),(20,⟨[(none,(fr 0 8))],false,[],[6]⟩)]) (rs:=[.tmp 6]) (L:=rs) (fun c=>(a3 A9 0 1 2 c)) Tryz.mixed Tryz.func92 (fun c=>
(sq (a3 A9 0 1 2 c)
(sn
(sq (a3 yq 0 2 4 c)
(sn
(sn
(sn
(sn
(sq (a3 bT 2 4 8 c)
(sn
(sn
(sl (a0 n1 c))
(sq (a2 n7 2 8 c)
(cd (a3 n6 2 8 117 c) (sn
(sm (a2 n2 2 8 c))
(sq (a2 n5 2 8 c)
(cd (a3 n4 2 8 120 c) (sl (a0 n3 c)) tr))) tr)))
(sq (a4 bW 2 4 8 14 c)
(bk 2 (lp [2,8,14,98,99,100] rs [(2,[2,8])] (a6 bN 2 8 14 98 99 100 c) cT (fun i vs h=>if i=2 then n7 c.W c.R c.N c.E c.P (vs.getD 0 aa) (vs.getD 1 aa) h else c.E i vs h) (.b (.t .o)) fun c=>
(sq (a6 bP 2 8 14 98 99 100 c)
(sn
(sn
(sm (a6 n8 2 8 14 98 99 100 c))
(bk 3 (sq (a6 bF 2 8 14 98 99 100 c)
(sn
(sm (a8 n9 2 8 14 15 16 98 99 100 c))
(sq (a8 br 2 8 14 15 16 98 99 100 c)
(sq (a9 ba 2 8 14 15 16 18 98 99 100 c)
(cd (a9 bc 2 8 14 15 16 98 99 100 111 c) (sl (a0 aZ c)) tr)))))))
(cd (a7 bM 2 8 14 98 99 100 101 c) tr tr))))))))
(sq (a4 iV 0 2 4 8 c)
(bk 0 (lp [0,2,4,8,67,68,69] rs [(0,[2,4,8])] (a7 jC 0 2 4 8 67 68 69 c) ju (fun i vs h=>if i=0 then bT c.W c.R c.N c.E c.P (vs.getD 0 aa) (vs.getD 1 aa) (vs.getD 2 aa) h else c.E i vs h) (.b (.t .o)) fun c=>
(sq (a7 ir 0 2 4 8 67 68 69 c)
(sn
(sn
(sm (a7 bX 0 2 4 8 67 68 69 c))
(bk 1 (sq (a7 jp 0 2 4 8 67 68 69 c)
(sn
(sn
(sn
(cd (a8 cq 0 2 4 8 67 68 69 94 c) (sl (a0 cl c)) tr)
(gr (gl (a8 cL 0 2 4 8 12 67 68 69 c))))
(sq (a8 cE 0 2 4 8 12 67 68 69 c)
(cd (a9 cG 0 2 4 8 12 67 68 69 86 c) (sl (a0 cN c)) tr)))
(sq (a8 fq 0 2 4 8 12 67 68 69 c)
(cd (a9 ea 0 2 4 8 12 67 68 69 74 c) (sn
(sm (a7 cV 0 2 4 8 67 68 69 c))
(sn
(sq (a8 dG 0 2 4 8 13 67 68 69 c)
(cd (a9 cU 0 2 4 8 13 67 68 69 82 c) (sl (a1 cX 13 c)) tr))
(gr (gl (a8 dV 0 2 4 8 12 67 68 69 c))))) tr))))))
(cd (a8 jD 0 2 4 8 67 68 69 70 c) tr tr)))))))
(sq (a5 iN 0 2 4 7 8 c)
(cd (a5 iq 0 2 4 8 65 c) (sl (a0 j_ c)) tr)))
(sq (a5 jf 0 2 4 7 8 c)
(cd (a6 jo 0 2 4 7 8 60 c) (sl (a0 jN c)) tr)))
(sq (a5 km 0 2 4 7 8 c)
(sn
(cd (a7 kJ 0 2 4 7 8 9 49 c) tr tr)
(gr (gn (a7 qv 0 2 4 7 8 9 10 c) (gx (a7 si 0 2 4 7 8 9 44 c) (gl (a8 mw 0 2 4 7 8 9 44 48 c)))))))))
(sn
(cd (a4 yp 0 2 4 29 c) (sl (a0 C3 c)) tr)
(gr (gn (a3 A_ 0 2 4 c) (gx (a4 wA 0 2 4 21 c) (gl (a5 vk 0 2 4 21 28 c))))))))) hp
attribute [simp] n1 n2 n3 n4 n5 n6 n7 n8 n9 aZ bc ba br bF bM bP bW bT bX cl cq cL cN cG cE cV cX cU dG dV ea fq jp jD ir iV j_ iq iN jN jo jf kJ mw si qv km yq C3 yp vk wA A_ A9
end ci
namespace GS
abbrev rs:List Nat:=[4]
def n1:N0:=fun _ R _ _ _ h=>
R [(.sc (.int .i64 0))] h
def n2:N0:=fun _ R _ _ _ h=>
R [(.sc (.int .i64 112))] h
def n3:N1:=fun W R N E P pR h=>
aM pR (
n2 W R N E P h) (
n1 W R N E P h)
def n4:N2:=fun W R N E P q8 ve h=>
aT q8 (.sc (.bool true)) ve fun t1=>
n3 W R N E P t1 h
def n5:N3:=fun W R N E P x3 x5 q8 h=>
bE false q8 (
ah (some 1) x3 fun t2=>
al (some false) (some 1) t2 h fun t3 _=>
ah (some 1) x5 fun t5=>
al (some false) (some 1) t5 h fun t6 _=>
ag Pg .geq 3 false t3 t6 fun t8=>
n4 W R N E P q8 t8 h) (
n4 W R N E P q8 aa h)
def n6:N2:=fun W R N E P x3 x5 h=>
ah (some 1) x3 fun t9=>
al (some false) (some 1) t9 h fun t10 _=>
ag Pg .lss 3 true t10 (.sc (.int .i64 0)) fun t12=>
n5 W R N E P x3 x5 t12 h
def n7:N0:=fun _ R _ _ _ h=>
R [(.sc (.int .i64 110))] h
def n8:N3:=fun W R N E P x3 x5 dD h=>
aM dD (
n7 W R N E P h) (
n6 W R N E P x3 x5 h)
def n9:N3:=fun W R N E P x3 x5 x6 h=>
gM .not x6 fun t13=>
n8 W R N E P x3 x5 t13 h
def aZ:N2:=fun W R N E P x0 x3 h=>
ah (some 0) x3 fun t14=>
al (some false) (some 1) t14 h fun t15 _=>
fC Pg (some (9,56)) x0 t15 true h fun t17 _=>
cf t17 0 fun t19=>
cf t17 1 fun t20=>
bn (some [.int .i64 0,.int .i64 0]) 2 56 h fun t21 yS=>
aE (some 2) t21 t19 yS W fun DB=>
n9 W R N E P x3 t21 t20 DB
def bc:N2:=fun W R N E P x0 x1 h=>
dS 2 67 x1 h fun t24 vG=>
aZ W R N E P x0 t24 vG
theorem aO{x0 x1:AV}{h:AH}{M:WK}{R:RK}(hp:bc (fun id=>M id\/h.next<=id) (aK Pg [.tmp 4] R) (aK Pg [.tmp 4] R) (fun _ _ _=>False) (fun v h=>R (.b6 v) h) x0 x1 h):aB Pg 93 [x0,x1] h M R:=
 fin (n:=26) (pl:=[(4,⟨[(none,(fr 0 4)),(some (3,false),(fr 4 5)),(none,(fr 9 1))],false,[],[]⟩)]) (rs:=[.tmp 4]) (L:=rs) (fun c=>(a2 bc 0 1 c)) Tryz.mixed Tryz.func93 (fun c=>
(sq (a2 bc 0 1 c)
(sq (a2 aZ 0 3 c)
(sn
(sn
(sl (a0 n1 c))
(sn
(cd (a1 n3 25 c) (sl (a0 n2 c)) tr)
(gr (gn (a2 n6 3 5 c) (gx (a3 n5 3 5 19 c) (gl (a2 n4 19 24 c)))))))
(sq (a3 n9 3 5 6 c)
(cd (a3 n8 3 5 15 c) (sl (a0 n7 c)) tr)))))) hp
attribute [simp] n1 n2 n3 n4 n5 n6 n7 n8 n9 aZ bc
end GS
namespace pE
abbrev rs:List Nat:=[4]
def n1:N1:=fun _ R _ _ _ x4 h=>
R [x4] h
def n2:N2:=fun W R N E P gu eJ h=>
aT gu (.sc (.bool true)) eJ fun t1=>
n1 W R N E P t1 h
def n3:N2:=fun W R N E P x1 gu h=>
bE false gu (
aC Pg W 44 [x1] h (fun t2 h3=>
ag Pg .gtr 3 true t2 (.sc (.int .i64 0)) fun t4=>
n2 W R N E P gu t4 h3) P) (
n2 W R N E P gu aa h)
def n4:N3:=fun W R N E P x1 AC iS h=>
aT AC (.sc (.bool true)) iS fun t5=>
n3 W R N E P x1 t5 h
def n5:N3:=fun W R N E P x1 au AC h=>
bE false AC (
n4 W R N E P x1 AC au h) (
n4 W R N E P x1 AC aa h)
def n6:N4:=fun W R N E P x1 au gv kH h=>
aT gv (.sc (.bool true)) kH fun t6=>
n5 W R N E P x1 au t6 h
def n7:N4:=fun W R N E P x1 x8 au gv h=>
bE false gv (
n6 W R N E P x1 au gv x8 h) (
n6 W R N E P x1 au gv aa h)
def n8:N4:=fun W R N E P x1 x6 x8 au h=>
n7 W R N E P x1 x8 au x6 h
def n9:N4:=fun W R N E P x0 x1 x6 x8 h=>
aY x0 fun t7=>
ah (some 3) t7 fun t8=>
al (some false) (some 1) t8 h fun t9 _=>
fC Pg (some (9,122)) t9 x1 true h fun t11 _=>
cf t11 0 fun t13=>
cf t11 1 fun t14=>
n8 W R N E P x1 x6 x8 t14 h
def aZ:N3:=fun W R N E P x0 x1 x6 h=>
aY x0 fun t15=>
ah (some 2) t15 fun t16=>
al (some false) (some 1) t16 h fun t17 _=>
fC Pg (some (9,56)) t17 x1 true h fun t19 _=>
cf t19 0 fun t21=>
cf t19 1 fun t22=>
bn (some [.int .i64 0,.int .i64 0]) 2 56 h fun t23 vH=>
aE (some 2) t23 t21 vH W fun vG=>
n9 W R N E P x0 x1 x6 t22 vG
def bc:N2:=fun W R N E P x0 x1 h=>
aY x0 fun t26=>
ah (some 1) t26 fun t27=>
al (some false) (some 1) t27 h fun t28 _=>
fC Pg (some (9,56)) t28 x1 true h fun t30 _=>
cf t30 0 fun t32=>
cf t30 1 fun t33=>
bn (some [.int .i64 0,.int .i64 0]) 2 56 h fun t34 tK=>
aE (some 2) t34 t32 tK W fun yP=>
aZ W R N E P x0 x1 t33 yP
def ba:N2:=fun W R N E P x0 x1 h=>
bc W R N E P x0 x1 h
theorem aO{x0 x1:AV}{h:AH}{M:WK}{R:RK}(hp:ba (fun id=>M id\/h.next<=id) (aK Pg [.tmp 4] R) (aK Pg [.tmp 4] R) (fun _ _ _=>False) (fun v h=>R (.b6 v) h) x0 x1 h):aB Pg 113 [x0,x1] h M R:=
 fin (n:=50) (pl:=[(4,⟨[(none,(fr 0 2)),(some (1,false),(fr 2 1)),(none,(fr 3 2)),(some (4,false),(fr 5 1)),(none,(fr 6 2)),(some (7,false),(fr 8 3)),(none,(fr 11 2))],false,[],[]⟩)]) (rs:=[.tmp 4]) (L:=rs) (fun c=>(a2 ba 0 1 c)) Tryz.mixed Tryz.func113 (fun c=>
(sq (a2 ba 0 1 c)
(sq (a2 bc 0 1 c)
(sq (a3 aZ 0 1 6 c)
(sq (a4 n9 0 1 6 8 c)
(sn
(sm (a1 n1 4 c))
(gr (gn (a4 n8 1 6 8 10 c) (gx (a4 n7 1 8 10 39 c) (gn (a4 n6 1 10 39 40 c) (gx (a3 n5 1 10 42 c) (gn (a3 n4 1 42 43 c) (gx (a2 n3 1 45 c) (gl (a2 n2 45 48 c))))))))))))))) hp
attribute [simp] n1 n2 n3 n4 n5 n6 n7 n8 n9 aZ bc ba
end pE
namespace cw
abbrev rs:List Nat:=[8]
def n1:N0:=fun _ R _ _ _ h=>
R [(.sc (.int .i64 0))] h
def n2:N2:=fun W R _ _ P x0 x5 h=>
al (some true) (some 6) x5 h fun t1 _=>
aY x0 fun t3=>
ah (some 1) t3 fun t4=>
al (some false) (some 1) t4 h fun t5 _=>
aY x0 fun t7=>
ah (some 5) t7 fun t8=>
ah (some 0) t8 fun t9=>
aC Pg W 90 [x0,t1,t5,t9,(.sc (.int .i64 64))] h (fun t10 qz=>
R [t10] qz) P
def n3:N2:=fun W R _ _ P x0 x5 h=>
al (some true) (some 6) x5 h fun t12 _=>
aY x0 fun t14=>
ah (some 2) t14 fun t15=>
al (some false) (some 1) t15 h fun t16 _=>
aY x0 fun t18=>
ah (some 5) t18 fun t19=>
ah (some 1) t19 fun t20=>
aC Pg W 90 [x0,t12,t16,t20,(.sc (.int .i64 64))] h (fun t21 yS=>
R [t21] yS) P
def n4:N3:=fun W R _ _ P x0 x2 x5 h=>
al (some true) (some 6) x5 h fun t23 _=>
aC Pg W 91 [x0,t23,x2] h (fun t25 nH=>
R [t25] nH) P
def n5:N0:=fun _ R _ _ _ h=>
R [(.sc (.int .i64 112))] h
def n6:N1:=fun W R N E P tl h=>
aM tl (
n5 W R N E P h) (
n1 W R N E P h)
def n7:N1:=fun W R N E P x5 h=>
ah (some 3) x5 fun t27=>
al (some false) (some 1) t27 h fun t28 _=>
ag Pg .lss 3 true t28 (.sc (.int .i64 0)) fun t30=>
n6 W R N E P t30 h
def n8:N0:=fun _ R _ _ _ h=>
R [(.sc (.int .i64 112))] h
def n9:N1:=fun W R N E P ms h=>
aM ms (
n8 W R N E P h) (
n1 W R N E P h)
def aZ:N2:=fun W R N E P fy eo h=>
aT fy (.sc (.bool true)) eo fun t31=>
n9 W R N E P t31 h
def bc:N3:=fun W R N E P fy Eu ep h=>
bE false fy (
aT Eu ep (.sc (.bool false)) fun t32=>
aZ W R N E P fy t32 h) (
aZ W R N E P fy aa h)
def ba:N4:=fun W R N E P x5 x9 fy Eu h=>
bE true Eu (
ah (some 3) x5 fun t33=>
al (some false) (some 1) t33 h fun t34 _=>
ah (some 1) x9 fun t36=>
al (some false) (some 1) t36 h fun t37 _=>
ag Pg .shl 3 true (.sc (.int .i64 1)) t37 fun t39=>
ag Pg .geq 3 false t34 t39 fun t40=>
bc W R N E P fy Eu t40 h) (
bc W R N E P fy Eu aa h)
def br:N3:=fun W R N E P x5 x9 fy h=>
bE false fy (
ah (some 1) x9 fun t41=>
al (some false) (some 1) t41 h fun t42 _=>
ag Pg .lss 3 true t42 (.sc (.int .i64 63)) fun t44=>
ba W R N E P x5 x9 fy t44 h) (
ba W R N E P x5 x9 fy aa h)
def bF:N2:=fun W R N E P x5 x9 h=>
ah (some 3) x5 fun t45=>
al (some false) (some 1) t45 h fun t46 _=>
ag Pg .lss 3 true t46 (.sc (.int .i64 0)) fun t48=>
br W R N E P x5 x9 t48 h
def bM:N0:=fun _ R _ _ _ h=>
R [(.sc (.int .i64 110))] h
def bP:N3:=fun W R N E P x5 x9 Ev h=>
aM Ev (
bM W R N E P h) (
bF W R N E P x5 x9 h)
def bN:N3:=fun W R N E P x5 x9 au h=>
gM .not au fun t49=>
bP W R N E P x5 x9 t49 h
def bW:N2:=fun W R N E P x0 x5 h=>
aY x0 fun t50=>
ah (some 2) t50 fun t51=>
al (some false) (some 1) t51 h fun t52 _=>
ah (some 1) x5 fun t54=>
al (some false) (some 1) t54 h fun t55 _=>
fC Pg (some (9,56)) t52 t55 true h fun t57 _=>
cf t57 0 fun t59=>
cf t57 1 fun t60=>
bn (some [.int .i64 0,.int .i64 0]) 2 56 h fun t61 BA=>
aE (some 2) t61 t59 BA W fun L3=>
bN W R N E P x5 t61 t60 L3
def bT:N3:=fun W R _ _ P x0 x3 x5 h=>
al (some true) (some 6) x5 h fun t64 _=>
aC Pg W 92 [x0,t64,x3] h (fun t66 V0=>
R [t66] V0) P
def bX:N2:=fun W R _ _ P x0 x5 h=>
aY x0 fun t68=>
ah (some 2) t68 fun t69=>
al (some false) (some 1) t69 h fun t70 _=>
ah (some 2) x5 fun t72=>
al (some false) (some 1) t72 h fun t73 _=>
cj (some (2,none)) t73 (.sc (.int .i64 1)) fun t75=>
al (some true) (some 2) t75 h fun t76 _=>
aC Pg W 93 [t70,t76] h (fun t78 VZ=>
R [t78] VZ) P
def cl:N1:=fun _ R _ _ _ ax h=>
R [ax] h
def cq:N4:=fun W R N E P x0 x5 ax aaq h=>
aM aaq (
cl W R N E P ax h) (
bX W R N E P x0 x5 h)
def cL:N3:=fun W R N E P x0 x5 ax h=>
ag Pg .neq 28 true ax (.sc (.int .i64 0)) fun t80=>
cq W R N E P x0 x5 ax t80 h
def cN:N2:=fun W R N E P x0 x5 h=>
aY x0 fun t81=>
ah (some 1) t81 fun t82=>
al (some false) (some 1) t82 h fun t83 _=>
ah (some 2) x5 fun t85=>
al (some false) (some 1) t85 h fun t86 _=>
cj (some (2,none)) t86 (.sc (.int .i64 0)) fun t88=>
al (some true) (some 2) t88 h fun t89 _=>
aC Pg W 93 [t83,t89] h (fun t91 LV=>
cL W R N E P x0 x5 t91 LV) P
def cG:N0:=fun _ R _ _ _ h=>
R [(.sc (.int .i64 111))] h
def cE:N3:=fun W R N E P x0 x5 vT h=>
aM vT (
cG W R N E P h) (
cN W R N E P x0 x5 h)
def cV:N2:=fun W R N E P x0 x5 h=>
ah (some 2) x5 fun t93=>
al (some false) (some 1) t93 h fun t94 _=>
(a_ t94=false)/\bO t94 fun t96=>
ag Pg .neq 3 true t96 (.sc (.int .i64 2)) fun t97=>
cE W R N E P x0 x5 t97 h
def cX:N2:=fun W R _ _ P x0 x5 h=>
aY x0 fun t98=>
ah (some 1) t98 fun t99=>
al (some false) (some 1) t99 h fun t100 _=>
ah (some 2) x5 fun t102=>
al (some false) (some 1) t102 h fun t103 _=>
cj (some (2,none)) t103 (.sc (.int .i64 0)) fun t105=>
al (some true) (some 2) t105 h fun t106 _=>
aC Pg W 93 [t100,t106] h (fun t108 On=>
R [t108] On) P
def cU:N0:=fun _ R _ _ _ h=>
R [(.sc (.int .i64 111))] h
def dG:N3:=fun W R N E P x0 x5 zd h=>
aM zd (
cU W R N E P h) (
cX W R N E P x0 x5 h)
def dV:N2:=fun W R N E P x0 x5 h=>
ah (some 2) x5 fun t110=>
al (some false) (some 1) t110 h fun t111 _=>
(a_ t111=false)/\bO t111 fun t113=>
ag Pg .neq 3 true t113 (.sc (.int .i64 1)) fun t114=>
dG W R N E P x0 x5 t114 h
def ea:N3:=fun W R N E P x0 x5 aaj h=>
aM aaj (
dV W R N E P x0 x5 h) (
n1 W R N E P h)
def fq:N3:=fun W R N E P x0 x5 aR h=>
ag Pg .eql 9 true aR (.sc (.string ⟨#[114,101,115,101,116]⟩)) fun t115=>
ea W R N E P x0 x5 t115 h
def jp:N4:=fun W R N E P x0 x5 aR tj h=>
aM tj (
cV W R N E P x0 x5 h) (
fq W R N E P x0 x5 aR h)
def jD:N3:=fun W R N E P x0 x5 aR h=>
ag Pg .eql 9 true aR (.sc (.string ⟨#[109,101,97,115,117,114,101]⟩)) fun t116=>
jp W R N E P x0 x5 aR t116 h
def ir:N5:=fun W R N E P x0 x3 x5 aR pP h=>
aM pP (
bT W R N E P x0 x3 x5 h) (
jD W R N E P x0 x5 aR h)
def jC:N4:=fun W R N E P x0 x3 x5 aR h=>
ag Pg .eql 9 true aR (.sc (.string ⟨#[117,115,101]⟩)) fun t117=>
ir W R N E P x0 x3 x5 aR t117 h
def iV:N5:=fun W R N E P x0 x3 x5 aR vU h=>
aM vU (
bW W R N E P x0 x5 h) (
jC W R N E P x0 x3 x5 aR h)
def j_:N4:=fun W R N E P x0 x3 x5 aR h=>
ag Pg .eql 9 true aR (.sc (.string ⟨#[105,102]⟩)) fun t118=>
iV W R N E P x0 x3 x5 aR t118 h
def iq:N5:=fun W R N E P x0 x3 x5 aR Ey h=>
aM Ey (
n7 W R N E P x5 h) (
j_ W R N E P x0 x3 x5 aR h)
def iN:N4:=fun W R N E P x0 x3 x5 aR h=>
ag Pg .eql 9 true aR (.sc (.string ⟨#[114,101,112,101,97,116]⟩)) fun t119=>
iq W R N E P x0 x3 x5 aR t119 h
def jN:N6:=fun W R N E P x0 x2 x3 x5 aR kH h=>
aM kH (
n4 W R N E P x0 x2 x5 h) (
iN W R N E P x0 x3 x5 aR h)
def jo:N5:=fun W R N E P x0 x2 x3 x5 aR h=>
ag Pg .eql 9 true aR (.sc (.string ⟨#[103,97,116,101]⟩)) fun t120=>
jN W R N E P x0 x2 x3 x5 aR t120 h
def jf:N6:=fun W R N E P x0 x2 x3 x5 aR eV h=>
aM eV (
n3 W R N E P x0 x5 h) (
jo W R N E P x0 x2 x3 x5 aR h)
def kJ:N5:=fun W R N E P x0 x2 x3 x5 aR h=>
ag Pg .eql 9 true aR (.sc (.string ⟨#[98,105,116,115]⟩)) fun t121=>
jf W R N E P x0 x2 x3 x5 aR t121 h
def mw:N6:=fun W R N E P x0 x2 x3 x5 aR bV h=>
aM bV (
n2 W R N E P x0 x5 h) (
kJ W R N E P x0 x2 x3 x5 aR h)
def si:N5:=fun W R N E P x0 x2 x3 x5 aR h=>
ag Pg .eql 9 true aR (.sc (.string ⟨#[113,117,98,105,116,115]⟩)) fun t122=>
mw W R N E P x0 x2 x3 x5 aR t122 h
def qv:N4:=fun W R N E P x0 x2 x3 x5 h=>
ah (some 0) x5 fun t123=>
al (some false) (some 1) t123 h fun t124 _=>
si W R N E P x0 x2 x3 x5 t124 h
def km:N4:=fun W R N E P x0 x1 x2 x3 h=>
dS 6 46 x1 h fun t126 acj=>
qv W R N E P x0 x2 x3 t126 acj
theorem aO{x0 x1 x2 x3:AV}{h:AH}{M:WK}{R:RK}(hp:km (fun id=>M id\/h.next<=id) (aK Pg [.tmp 8] R) (aK Pg [.tmp 8] R) (fun _ _ _=>False) (fun v h=>R (.b6 v) h) x0 x1 x2 x3 h):aB Pg 67 [x0,x1,x2,x3] h M R:=
 fin (n:=129) (pl:=[(3,⟨[(none,(fr 0 12))],false,[],[]⟩),(5,⟨[(none,(fr 0 12))],false,[],[]⟩),(12,⟨[(none,(fr 0 13))],false,[],[]⟩),(15,⟨[(none,(fr 0 4)),(some (3,false),(fr 4 4)),(some (7,true),(fr 8 6)),(some (3,false),(fr 14 1)),(none,(fr 15 1))],false,[],[]⟩),(22,⟨[(none,(fr 0 10))],false,[],[]⟩),(25,⟨[(none,(fr 0 10))],false,[],[]⟩),(29,⟨[(none,(fr 0 10))],false,[],[]⟩)]) (rs:=[.tmp 8]) (L:=rs) (fun c=>(a4 km 0 1 2 3 c)) Tryz.mixed Tryz.func67 (fun c=>
(sq (a4 km 0 1 2 3 c)
(sn
(sl (a0 n1 c))
(sq (a4 qv 0 2 3 5 c)
(bk 0 (sq (a5 si 0 2 3 5 13 c)
(cd (a6 mw 0 2 3 5 13 14 c) (sl (a2 n2 0 5 c)) (sq (a5 kJ 0 2 3 5 13 c)
(cd (a6 jf 0 2 3 5 13 27 c) (sl (a2 n3 0 5 c)) (sq (a5 jo 0 2 3 5 13 c)
(cd (a6 jN 0 2 3 5 13 40 c) (sl (a3 n4 0 2 5 c)) (sq (a4 iN 0 3 5 13 c)
(cd (a5 iq 0 3 5 13 46 c) (sq (a1 n7 5 c)
(cd (a1 n6 50 c) (sl (a0 n5 c)) tr)) (sq (a4 j_ 0 3 5 13 c)
(cd (a5 iV 0 3 5 13 51 c) (sq (a2 bW 0 5 c)
(sn
(sn
(cd (a1 n9 80 c) (sl (a0 n8 c)) tr)
(gr (gn (a2 bF 5 9 c) (gx (a3 br 5 9 68 c) (gx (a4 ba 5 9 68 72 c) (gx (a3 bc 68 72 78 c) (gl (a2 aZ 68 79 c))))))))
(sq (a3 bN 5 9 10 c)
(cd (a3 bP 5 9 64 c) (sl (a0 bM c)) tr)))) (sq (a4 jC 0 3 5 13 c)
(cd (a5 ir 0 3 5 13 81 c) (sl (a3 bT 0 3 5 c)) (sq (a3 jD 0 5 13 c)
(cd (a4 jp 0 5 13 87 c) (sn
(sn
(sl (a2 bX 0 5 c))
(sq (a2 cN 0 5 c)
(sq (a3 cL 0 5 11 c)
(cd (a4 cq 0 5 11 103 c) (sl (a1 cl 11 c)) tr))))
(sq (a2 cV 0 5 c)
(cd (a3 cE 0 5 92 c) (sl (a0 cG c)) tr))) (sq (a3 fq 0 5 13 c)
(cd (a3 ea 0 5 114 c) (sn
(sl (a2 cX 0 5 c))
(sq (a2 dV 0 5 c)
(cd (a3 dG 0 5 119 c) (sl (a0 cU c)) tr))) tr))))))))))))))))))))) hp
attribute [simp] n1 n2 n3 n4 n5 n6 n7 n8 n9 aZ bc ba br bF bM bP bN bW bT bX cl cq cL cN cG cE cV cX cU dG dV ea fq jp jD ir jC iV j_ iq iN jN jo jf kJ mw si qv km
end cw
end
section
open Go.Ab
namespace fh
abbrev rs:List Nat:=[10]
def n1:N0:=fun _ R _ _ _ h=>
R [(.sc (.int .i64 0))] h
def n2:N6:=fun _ _ N _ _ x0 x2 x3 x4 ax aP h=>
ah (some 4) aP fun t1=>
al (some false) (some 1) t1 h fun t2 _=>
ag Pg .add 3 true (.sc (.int .i64 1)) t2 fun t4=>
ag Pg .add 3 false ax t4 fun t5=>
N [x0,x2,x3,x4,t5] h
def n3:N7:=fun W R N E P x0 x2 x3 x4 ax aP jK h=>
aY jK fun t6=>
ah (some 2) t6 fun t7=>
al (some false) (some 1) t7 h fun t8 _=>
aY jK fun t10=>
ah (some 3) t10 fun t11=>
al (some false) (some 1) t11 h fun t12 _=>
aC Pg yn 68 [x0,t8,t12] h (fun t14 yT=>
aY jK fun t16=>
ah (some 5) t16 fun t17=>
aE (some 1) t17 t14 yT W fun vN=>
n2 W R N E P x0 x2 x3 x4 ax aP vN) P
def n4:N7:=fun W R N E P x0 x2 x3 x4 ax aP jK h=>
aY jK fun t19=>
ah (some 6) t19 fun t20=>
aE (some 1) t20 (.sc (.bool true)) h W fun vI=>
n3 W R N E P x0 x2 x3 x4 ax aP jK vI
def n5:N6:=fun W R N E P x0 x2 x3 x4 ax aP h=>
aY x0 fun t22=>
ah (some 3) t22 fun t23=>
al (some false) (some 1) t23 h fun t24 _=>
ah (some 1) aP fun t26=>
al (some false) (some 1) t26 h fun t27 _=>
fC Pg (some (9,122)) t24 t27 false h fun t29 _=>
n4 W R N E P x0 x2 x3 x4 ax aP t29 h
def n6:N7:=fun W R N E P x0 x2 x3 x4 ax aP J0 h=>
aM J0 (
n5 W R N E P x0 x2 x3 x4 ax aP h) (
n2 W R N E P x0 x2 x3 x4 ax aP h)
def n7:N6:=fun W R N E P x0 x2 x3 x4 ax aP h=>
ah (some 0) aP fun t31=>
al (some false) (some 1) t31 h fun t32 _=>
ag Pg .eql 9 true t32 (.sc (.string ⟨#[103,97,116,101]⟩)) fun t34=>
n6 W R N E P x0 x2 x3 x4 ax aP t34 h
def n8:N1:=fun _ R _ _ _ dM h=>
R [dM] h
def n9:N8:=fun W R N E P x0 x2 x3 x4 ax aP dM ep h=>
aM ep (
n8 W R N E P dM h) (
n7 W R N E P x0 x2 x3 x4 ax aP h)
def aZ:N7:=fun W R N E P x0 x2 x3 x4 ax aP dM h=>
ag Pg .neq 28 true dM (.sc (.int .i64 0)) fun t35=>
n9 W R N E P x0 x2 x3 x4 ax aP dM t35 h
def bc:N7:=fun W R N E P x0 x2 x3 x4 ax aP dD h=>
ag Pg .add 3 true ax (.sc (.int .i64 1)) fun t36=>
ag Pg .add 3 true ax (.sc (.int .i64 1)) fun t37=>
ah (some 4) aP fun t38=>
al (some false) (some 1) t38 h fun t39 _=>
ag Pg .add 3 false t37 t39 fun t41=>
ag Pg .add 3 true x3 (.sc (.int .i64 1)) fun t42=>
aC Pg W 37 [x0,t36,t41,t42,dD] h (fun t43 yN=>
aZ W R N E P x0 x2 x3 x4 ax aP t43 yN) P
def ba:N8:=fun W R N E P x0 x2 x3 x4 ax aP dD pQ h=>
aM pQ (
aY x0 fun t45=>
ah (some 3) t45 fun t46=>
al (some false) (some 1) t46 h fun t47 _=>
ah (some 1) aP fun t49=>
al (some false) (some 1) t49 h fun t50 _=>
fC Pg (some (9,122)) t47 t50 false h fun t52 _=>
bc W R N E P x0 x2 x3 x4 ax aP t52 h) (
bc W R N E P x0 x2 x3 x4 ax aP dD h)
def br:N7:=fun W R N E P x0 x2 x3 x4 ax aP dD h=>
ah (some 0) aP fun t54=>
al (some false) (some 1) t54 h fun t55 _=>
ag Pg .eql 9 true t55 (.sc (.string ⟨#[103,97,116,101]⟩)) fun t57=>
ba W R N E P x0 x2 x3 x4 ax aP dD t57 h
def bF:N6:=fun W R N E P x0 x2 x3 x4 ax aP h=>
br W R N E P x0 x2 x3 x4 ax aP x4 h
def bM:N1:=fun _ R _ _ _ bV h=>
R [bV] h
def bP:N8:=fun W R N E P x0 x2 x3 x4 ax aP bV mu h=>
aM mu (
bM W R N E P bV h) (
bF W R N E P x0 x2 x3 x4 ax aP h)
def bN:N7:=fun W R N E P x0 x2 x3 x4 ax aP bV h=>
ag Pg .neq 28 true bV (.sc (.int .i64 0)) fun t58=>
bP W R N E P x0 x2 x3 x4 ax aP bV t58 h
def bW:N6:=fun W R N E P x0 x2 x3 x4 ax aP h=>
al (some true) (some 6) aP h fun t59 _=>
aC Pg W 67 [x0,t59,ax,x4] h (fun t61 BA=>
bN W R N E P x0 x2 x3 x4 ax aP t61 BA) P
def bT:N1:=fun _ R _ _ _ aR h=>
R [aR] h
def bX:N8:=fun W R N E P x0 x2 x3 x4 ax aP aR fM h=>
aM fM (
bT W R N E P aR h) (
bW W R N E P x0 x2 x3 x4 ax aP h)
def cl:N7:=fun W R N E P x0 x2 x3 x4 ax aP aR h=>
ag Pg .neq 28 true aR (.sc (.int .i64 0)) fun t63=>
bX W R N E P x0 x2 x3 x4 ax aP aR t63 h
def cq:N6:=fun W R N E P x0 x2 x3 x4 ax aP h=>
al (some true) (some 6) aP h fun t64 _=>
ag Pg .sub 3 false x2 ax fun t66=>
ag Pg .sub 3 true t66 (.sc (.int .i64 1)) fun t67=>
aC Pg W 66 [x0,t64,t67,x3,x4] h (fun t68 LZ=>
cl W R N E P x0 x2 x3 x4 ax aP t68 LZ) P
def cL:N6:=fun W R N E P x0 x2 x3 x4 ax aP h=>
ah (some 5) aP fun t70=>
al (some false) (some 1) t70 h fun t71 _=>
aY x0 fun t73=>
ah (some 8) t73 fun t74=>
aE (some 1) t74 t71 h W fun LY=>
cq W R N E P x0 x2 x3 x4 ax aP LY
def cN:N5:=fun W R N E P x0 x2 x3 x4 ax h=>
aY x0 fun t76=>
ah (some 0) t76 fun t77=>
al (some false) (some 1) t77 h fun t78 _=>
cj (some (6,none)) t78 ax fun t80=>
al (some true) (some 6) t80 h fun t81 _=>
bn (some [.string ⟨#[]⟩,.string ⟨#[]⟩,.slice none 0 0,.int .i64 0,.int .i64 0,.int .i64 0]) 6 46 h fun t83 FK=>
aE (some 6) t83 t81 FK W fun Bx=>
cL W R N E P x0 x2 x3 x4 ax t83 Bx
def cG:N6:=fun W R N E P x0 x2 x3 x4 ax lE h=>
aM lE (
cN W R N E P x0 x2 x3 x4 ax h) (
E 0 [] h)
def cE:N5:=fun W R N E P x0 x2 x3 x4 ax h=>
ag Pg .lss 3 false ax x2 fun t86=>
cG W R N E P x0 x2 x3 x4 ax t86 h
def cT:GK:=fun W R N E P N' vs h=>cE W R N' (fun(i:Nat) (vs:List AV) (h:AH)=>if i=0 then n1 W R N E P h else E i vs h) P (vs.getD 0 aa) (vs.getD 1 aa) (vs.getD 2 aa) (vs.getD 3 aa) (vs.getD 4 aa) h
def cV:N5:=fun W R N E P x0 x2 x3 x4 ax h=>
dT (cT W R N E P) [x0,x2,x3,x4,ax] h
def cX:N5:=fun W R N E P x0 x1 x2 x3 x4 h=>
cV W R N E P x0 x2 x3 x4 x1 h
def cU:N5:=fun W R N E P x0 x1 x2 x3 x4 h=>
cX W R N E P x0 x1 x2 x3 x4 h
theorem aO{x0 x1 x2 x3 x4:AV}{h:AH}{M:WK}{R:RK}(hp:cU (fun id=>M id\/h.next<=id) (aK Pg [.tmp 10] R) (aK Pg [.tmp 10] R) (fun _ _ _=>False) (fun v h=>R (.b6 v) h) x0 x1 x2 x3 x4 h):aB Pg 37 [x0,x1,x2,x3,x4] h M R:=
 fin (n:=111) (pl:=[(13,⟨[(none,(fr 0 8))],false,[],[]⟩),(18,⟨[(none,(fr 0 8))],false,[],[]⟩),(20,⟨[(none,(fr 0 14))],false,[],[10]⟩)]) (rs:=[.tmp 10]) (L:=rs) (fun c=>(a5 cU 0 1 2 3 4 c)) Tryz.mixed Tryz.func37 (fun c=>
(sq (a5 cU 0 1 2 3 4 c)
(sn
(sl (a0 n1 c))
(sq (a5 cX 0 1 2 3 4 c)
(bk 0 (lp [0,2,3,4,11] rs [(0,[])] (a5 cV 0 2 3 4 11 c) cT (fun i vs h=>if i=0 then n1 c.W c.R c.N c.E c.P h else c.E i vs h) (.b (.t .o)) fun c=>
(sn
(bk 1 (sq (a5 cN 0 2 3 4 11 c)
(sq (a6 cL 0 2 3 4 11 12 c)
(sn
(sn
(sq (a6 bF 0 2 3 4 11 12 c)
(sn
(sn
(sn
(sm (a6 n2 0 2 3 4 11 12 c))
(sq (a6 n7 0 2 3 4 11 12 c)
(cd (a7 n6 0 2 3 4 11 12 82 c) (sq (a6 n5 0 2 3 4 11 12 c)
(sq (a7 n4 0 2 3 4 11 12 17 c)
(gr (gl (a7 n3 0 2 3 4 11 12 17 c))))) tr)))
(sq (a7 bc 0 2 3 4 11 12 15 c)
(sq (a7 aZ 0 2 3 4 11 12 16 c)
(cd (a8 n9 0 2 3 4 11 12 16 78 c) (sl (a1 n8 16 c)) tr))))
(sq (a7 br 0 2 3 4 11 12 15 c)
(cd (a8 ba 0 2 3 4 11 12 15 57 c) tr tr))))
(sq (a6 bW 0 2 3 4 11 12 c)
(sq (a7 bN 0 2 3 4 11 12 14 c)
(cd (a8 bP 0 2 3 4 11 12 14 52 c) (sl (a1 bM 14 c)) tr))))
(sq (a6 cq 0 2 3 4 11 12 c)
(sq (a7 cl 0 2 3 4 11 12 13 c)
(cd (a8 bX 0 2 3 4 11 12 13 44 c) (sl (a1 bT 13 c)) tr)))))))
(sq (a5 cE 0 2 3 4 11 c)
(cd (a6 cG 0 2 3 4 11 21 c) tr tr))))))))) hp
attribute [simp] n1 n2 n3 n4 n5 n6 n7 n8 n9 aZ bc ba br bF bM bP bN bW bT bX cl cq cL cN cG cE cX cU
end fh
namespace jW
abbrev rs:List Nat:=[6]
def n1:N1:=fun _ R _ _ _ x7 h=>
R [x7] h
def n2:N4:=fun _ _ N _ _ x0 x2 x7 x8 h=>
aY x0 fun t1=>
ah (some 0) t1 fun t2=>
al (some false) (some 1) t2 h fun t3 _=>
cj (some (6,none)) t3 x8 fun t5=>
ah (some 4) t5 fun t6=>
al (some false) (some 1) t6 h fun t7 _=>
ag Pg .add 3 true (.sc (.int .i64 1)) t7 fun t9=>
ag Pg .add 3 false x8 t9 fun t10=>
N [x0,x2,x7,t10] h
def n3:N5:=fun W R N E P x0 x2 x7 x8 au h=>
ag Pg .add 3 false x7 au fun t11=>
vi true t11 (.sc (.int .i64 4097)) fun t12=>
n2 W R N E P x0 x2 t12 x8 h
def n4:N7:=fun W R N E P x0 x2 x7 x8 x9 au eJ h=>
aM eJ (
ah (some 3) x9 fun t13=>
al (some false) (some 1) t13 h fun t14 _=>
vi true t14 (.sc (.int .i64 4097)) fun t16=>
ag Pg .mul 3 false t16 au fun t17=>
n3 W R N E P x0 x2 x7 x8 t17 h) (
n3 W R N E P x0 x2 x7 x8 au h)
def n5:N6:=fun W R N E P x0 x2 x7 x8 x9 au h=>
ag Pg .gtr 3 true au (.sc (.int .i64 0)) fun t18=>
n4 W R N E P x0 x2 x7 x8 x9 au t18 h
def n6:N5:=fun W R N E P x0 x2 x7 x8 x9 h=>
ag Pg .add 3 true x8 (.sc (.int .i64 1)) fun t19=>
ag Pg .add 3 true x8 (.sc (.int .i64 1)) fun t20=>
ah (some 4) x9 fun t21=>
al (some false) (some 1) t21 h fun t22 _=>
ag Pg .add 3 false t20 t22 fun t24=>
aC Pg W 68 [x0,t19,t24] h (fun t25 nH=>
n5 W R N E P x0 x2 x7 x8 x9 t25 nH) P
def n7:N7:=fun W R N E P x0 x2 x7 x8 au ax Ev h=>
aM Ev (
aY ax fun t27=>
ah (some 5) t27 fun t28=>
al (some false) (some 1) t28 h fun t29 _=>
n3 W R N E P x0 x2 x7 x8 t29 h) (
n3 W R N E P x0 x2 x7 x8 au h)
def n8:N7:=fun W R N E P x0 x2 x7 x8 au ax aP h=>
n7 W R N E P x0 x2 x7 x8 au ax aP h
def n9:N6:=fun W R N E P x0 x2 x7 x8 x9 au h=>
aY x0 fun t31=>
ah (some 3) t31 fun t32=>
al (some false) (some 1) t32 h fun t33 _=>
ah (some 1) x9 fun t35=>
al (some false) (some 1) t35 h fun t36 _=>
fC Pg (some (9,122)) t33 t36 true h fun t38 _=>
cf t38 0 fun t40=>
cf t38 1 fun t41=>
n8 W R N E P x0 x2 x7 x8 au t40 t41 h
def aZ:N7:=fun W R N E P x0 x2 x7 x8 x9 au fA h=>
aM fA (
n6 W R N E P x0 x2 x7 x8 x9 h) (
n9 W R N E P x0 x2 x7 x8 x9 au h)
def bc:N6:=fun W R N E P x0 x2 x7 x8 x9 au h=>
ah (some 0) x9 fun t42=>
al (some false) (some 1) t42 h fun t43 _=>
ag Pg .eql 9 true t43 (.sc (.string ⟨#[114,101,112,101,97,116]⟩)) fun t45=>
aZ W R N E P x0 x2 x7 x8 x9 au t45 h
def ba:N5:=fun W R N E P x0 x2 x7 x8 x9 h=>
bc W R N E P x0 x2 x7 x8 x9 (.sc (.int .i64 1)) h
def br:N4:=fun W R N E P x0 x2 x7 x8 h=>
aY x0 fun t46=>
ah (some 0) t46 fun t47=>
al (some false) (some 1) t47 h fun t48 _=>
cj (some (6,none)) t48 x8 fun t50=>
al (some true) (some 6) t50 h fun t51 _=>
bn (some [.string ⟨#[]⟩,.string ⟨#[]⟩,.slice none 0 0,.int .i64 0,.int .i64 0,.int .i64 0]) 6 46 h fun t53 Dy=>
aE (some 6) t53 t51 Dy W fun FR=>
ba W R N E P x0 x2 x7 x8 t53 FR
def bF:N5:=fun W R N E P x0 x2 x7 x8 dM h=>
aM dM (
br W R N E P x0 x2 x7 x8 h) (
E 0 [x7] h)
def bM:N4:=fun W R N E P x0 x2 x7 x8 h=>
ag Pg .lss 3 false x8 x2 fun t56=>
bF W R N E P x0 x2 x7 x8 t56 h
def cT:GK:=fun W R N E P N' vs h=>bM W R N' (fun(i:Nat) (vs:List AV) (h:AH)=>if i=0 then n1 W R N E P (vs.getD 0 aa) h else E i vs h) P (vs.getD 0 aa) (vs.getD 1 aa) (vs.getD 2 aa) (vs.getD 3 aa) h
def bP:N4:=fun W R N E P x0 x2 x7 x8 h=>
dT (cT W R N E P) [x0,x2,x7,x8] h
def bN:N4:=fun W R N E P x0 x1 x2 x7 h=>
bP W R N E P x0 x2 x7 x1 h
def bW:N3:=fun W R N E P x0 x1 x2 h=>
bN W R N E P x0 x1 x2 (.sc (.int .i64 0)) h
def bT:N3:=fun W R N E P x0 x1 x2 h=>
bW W R N E P x0 x1 x2 h
theorem aO{x0 x1 x2:AV}{h:AH}{M:WK}{R:RK}(hp:bT (fun id=>M id\/h.next<=id) (aK Pg [.tmp 6] R) (aK Pg [.tmp 6] R) (fun _ _ _=>False) (fun v h=>R (.b6 v) h) x0 x1 x2 h):aB Pg 68 [x0,x1,x2] h M R:=
 fin (n:=74) (pl:=[(11,⟨[(none,(fr 0 12))],false,[],[]⟩)]) (rs:=[.tmp 6]) (L:=rs) (fun c=>(a3 bT 0 1 2 c)) Tryz.mixed Tryz.func68 (fun c=>
(sq (a3 bT 0 1 2 c)
(sq (a3 bW 0 1 2 c)
(sn
(sl (a1 n1 7 c))
(sq (a4 bN 0 1 2 7 c)
(bk 0 (lp [0,2,7,8] rs [(0,[7])] (a4 bP 0 2 7 8 c) cT (fun i vs h=>if i=0 then n1 c.W c.R c.N c.E c.P (vs.getD 0 aa) h else c.E i vs h) (.b (.t .o)) fun c=>
(sn
(sn
(sm (a4 n2 0 2 7 8 c))
(bk 1 (sq (a4 br 0 2 7 8 c)
(sq (a5 ba 0 2 7 8 9 c)
(sn
(sm (a5 n3 0 2 7 8 10 c))
(sq (a6 bc 0 2 7 8 9 10 c)
(cd (a7 aZ 0 2 7 8 9 10 37 c) (sq (a5 n6 0 2 7 8 9 c)
(sq (a6 n5 0 2 7 8 9 10 c)
(cd (a7 n4 0 2 7 8 9 10 48 c) tr tr))) (sq (a6 n9 0 2 7 8 9 10 c)
(sq (a7 n8 0 2 7 8 10 11 12 c)
(cd (a7 n7 0 2 7 8 10 11 64 c) tr tr))))))))))
(sq (a4 bM 0 2 7 8 c)
(cd (a5 bF 0 2 7 8 16 c) tr tr)))))))))) hp
attribute [simp] n1 n2 n3 n4 n5 n6 n7 n8 n9 aZ bc ba br bF bM bN bW bT
end jW
namespace lA
abbrev rs:List Nat:=[10]
def n1:N5:=fun W R _ _ P x0 x4 x8 ax aR h=>
aY ax fun t1=>
ah (some 2) t1 fun t2=>
al (some false) (some 1) t2 h fun t3 _=>
aY ax fun t5=>
ah (some 3) t5 fun t6=>
al (some false) (some 1) t6 h fun t7 _=>
al (some true) (some 3) x8 h fun t9 _=>
aC Pg W 94 [x0,t3,t7,aR,t9,x4] h (fun t11 qy=>
R [t11] qy) P
def n2:N9:=fun _ _ N _ _ x0 x2 x4 x8 ax aR iS fM gu h=>
ag Pg .add 3 true gu (.sc (.int .i64 1)) fun t13=>
N [x0,x2,x4,x8,ax,aR,iS,fM,t13] h
def n3:GQ:=fun W R N E P x0 x2 x4 x8 ax aR bV dD iS fM gu h=>
cj (some (1,none)) x2 bV fun t14=>
al (some false) (some 1) t14 h fun t15 _=>
dI Pg (some (9,3)) aR dD t15 h W fun vO=>
n2 W R N E P x0 x2 x4 x8 ax aR iS fM gu vO
def n4:N9:=fun W R N E P x0 x2 x4 x8 ax aR iS fM gu h=>
cj (some (1,none)) iS gu fun t18=>
al (some false) (some 1) t18 h fun t19 _=>
n3 W R N E P x0 x2 x4 x8 ax aR gu t19 iS fM gu h
def n5:tS:=fun W R N E P x0 x2 x4 x8 ax aR iS fM gu Ey h=>
aM Ey (
n4 W R N E P x0 x2 x4 x8 ax aR iS fM gu h) (
E 0 [x0,x4,x8,ax,aR] h)
def n6:N9:=fun W R N E P x0 x2 x4 x8 ax aR iS fM gu h=>
ag Pg .lss 3 false gu fM fun t21=>
n5 W R N E P x0 x2 x4 x8 ax aR iS fM gu t21 h
def cT:GK:=fun W R N E P N' vs h=>n6 W R N' (fun(i:Nat) (vs:List AV) (h:AH)=>if i=0 then n1 W R N E P (vs.getD 0 aa) (vs.getD 1 aa) (vs.getD 2 aa) (vs.getD 3 aa) (vs.getD 4 aa) h else E i vs h) P (vs.getD 0 aa) (vs.getD 1 aa) (vs.getD 2 aa) (vs.getD 3 aa) (vs.getD 4 aa) (vs.getD 5 aa) (vs.getD 6 aa) (vs.getD 7 aa) (vs.getD 8 aa) h
def n7:N9:=fun W R N E P x0 x2 x4 x8 ax aR iS fM gu h=>
dT (cT W R N E P) [x0,x2,x4,x8,ax,aR,iS,fM,gu] h
def n8:N6:=fun W R N E P x0 x2 x4 x8 ax aR h=>
aY ax fun t22=>
ah (some 1) t22 fun t23=>
al (some false) (some 1) t23 h fun t24 _=>
(a_ t24=false)/\bO t24 fun t26=>
n7 W R N E P x0 x2 x4 x8 ax aR t24 t26 (.sc (.int .i64 0)) h
def n9:N5:=fun W R N E P x0 x2 x4 x8 ax h=>
qq 157 h fun t27 sF=>
n8 W R N E P x0 x2 x4 x8 ax t27 sF
def aZ:N0:=fun _ R _ _ _ h=>
R [(.sc (.bool true))] h
def bc:N6:=fun W R N E P x0 x2 x4 x8 ax gK h=>
aM gK (
aZ W R N E P h) (
n9 W R N E P x0 x2 x4 x8 ax h)
def ba:N5:=fun W R N E P x0 x2 x4 x8 ax h=>
aY ax fun t29=>
ah (some 5) t29 fun t30=>
al (some false) (some 1) t30 h fun t31 _=>
ag Pg .eql 3 true t31 (.sc (.int .i64 0)) fun t33=>
bc W R N E P x0 x2 x4 x8 ax t33 h
def br:N5:=fun W R _ _ P x0 x1 x2 x4 x8 h=>
bZ (some ([.int .i64 0,.string ⟨#[]⟩,.slice none 0 0,.int .i64 0,.bool false,.int .u64 0,.int .u64 0],.inl [(0,1),(1,1),(2,1),(3,1),(4,1),(5,1),(6,1)])) [(0,(.sc (.int .i64 1))),(1,x1),(2,x2)] fun t34=>
al (some true) (some 3) x8 h fun t35 _=>
aC Pg W 71 [x0,t34,t35,x4] h (fun t37 QQ=>
R [t37] QQ) P
def bF:N7:=fun W R N E P x0 x1 x2 x4 x8 ax x26 h=>
aM x26 (
br W R N E P x0 x1 x2 x4 x8 h) (
ba W R N E P x0 x2 x4 x8 ax h)
def bM:N7:=fun W R N E P x0 x1 x2 x4 x8 ax aP h=>
gM .not aP fun t39=>
bF W R N E P x0 x1 x2 x4 x8 ax t39 h
def bP:N5:=fun W R N E P x0 x1 x2 x4 x8 h=>
aY x0 fun t40=>
ah (some 3) t40 fun t41=>
al (some false) (some 1) t41 h fun t42 _=>
fC Pg (some (9,122)) t42 x1 true h fun t44 _=>
cf t44 0 fun t46=>
cf t44 1 fun t47=>
bM W R N E P x0 x1 x2 x4 x8 t46 t47 h
def bN:N5:=fun W R N E P x0 x1 x2 x3 x4 h=>
dS 3 100 x3 h fun t48 HZ=>
bP W R N E P x0 x1 x2 x4 t48 HZ
theorem aO{x0 x1 x2 x3 x4:AV}{h:AH}{M:WK}{R:RK}(hp:bN (fun id=>M id\/h.next<=id) (aK Pg [.tmp 10] R) (aK Pg [.tmp 10] R) (fun _ _ _=>False) (fun v h=>R (.b6 v) h) x0 x1 x2 x3 x4 h):aB Pg 69 [x0,x1,x2,x3,x4] h M R:=
 fin (n:=70) (pl:=[(12,⟨[(none,(fr 0 14))],false,[],[]⟩)]) (rs:=[.tmp 10]) (L:=rs) (fun c=>(a5 bN 0 1 2 3 4 c)) Tryz.mixed Tryz.func69 (fun c=>
(sq (a5 bN 0 1 2 3 4 c)
(sq (a5 bP 0 1 2 4 8 c)
(sn
(sn
(sq (a5 n9 0 2 4 8 11 c)
(sn
(sl (a5 n1 0 4 8 11 13 c))
(sq (a6 n8 0 2 4 8 11 13 c)
(bk 0 (lp [0,2,4,8,11,13,43,44,45] rs [(0,[0,4,8,11,13])] (a9 n7 0 2 4 8 11 13 43 44 45 c) cT (fun i vs h=>if i=0 then n1 c.W c.R c.N c.E c.P (vs.getD 0 aa) (vs.getD 1 aa) (vs.getD 2 aa) (vs.getD 3 aa) (vs.getD 4 aa) h else c.E i vs h) (.b (.t .o)) fun c=>
(sq (a9 n6 0 2 4 8 11 13 43 44 45 c)
(sn
(sn
(sm (a9 n2 0 2 4 8 11 13 43 44 45 c))
(bk 1 (sq (a9 n4 0 2 4 8 11 13 43 44 45 c)
(sm (DZ n3 0 2 4 8 11 13 14 15 43 44 45 c)))))
(cd (sQ n5 0 2 4 8 11 13 43 44 45 46 c) tr tr))))))))
(sq (a5 ba 0 2 4 8 11 c)
(cd (a6 bc 0 2 4 8 11 38 c) (sl (a0 aZ c)) tr)))
(sq (a7 bM 0 1 2 4 8 11 12 c)
(cd (a7 bF 0 1 2 4 8 11 26 c) (sl (a5 br 0 1 2 4 8 c)) tr)))))) hp
attribute [simp] n1 n2 n3 n4 n5 n6 n8 n9 aZ bc ba br bF bM bP bN
end lA
namespace sR
abbrev rs:List Nat:=[4]
def n1:N1:=fun _ R _ _ _ x5 h=>
R [x5] h
def n2:N5:=fun _ _ N _ _ x0 x5 x8 x9 au h=>
ag Pg .add 3 true au (.sc (.int .i64 1)) fun t1=>
N [x0,x5,x8,x9,t1] h
def n3:N6:=fun W R N E P x0 x5 x7 x8 x9 au h=>
aY x0 fun t2=>
ah (some 1) t2 fun t3=>
al (some false) (some 1) t3 h fun t4 _=>
ah (some 0) x7 fun t6=>
al (some false) (some 1) t6 h fun t7 _=>
fC Pg (some (9,56)) t4 t7 false h fun t9 _=>
lL (some (0,1,false)) t9 fun t11=>
ah (some 1) x7 fun t12=>
al (some false) (some 1) t12 h fun t13 _=>
ag Pg .add 3 false t11 t13 fun t15=>
dK (some (1,3,[.int .i64 0])) 1 [(0,t15)] h fun t16 vO=>
eh (some (1,8,3)) x5 t16 vO W fun t18 vK=>
n2 W R N E P x0 t18 x8 x9 au vK
def n4:N5:=fun W R N E P x0 x5 x8 x9 au h=>
cj (some (2,none)) x8 au fun t20=>
al (some true) (some 2) t20 h fun t21 _=>
bn (some [.string ⟨#[]⟩,.int .i64 0]) 2 67 h fun t23 vH=>
aE (some 2) t23 t21 vH W fun vG=>
n3 W R N E P x0 x5 t23 x8 x9 au vG
def n5:N6:=fun W R N E P x0 x5 x8 x9 au ax h=>
aM ax (
n4 W R N E P x0 x5 x8 x9 au h) (
E 0 [x5] h)
def n6:N5:=fun W R N E P x0 x5 x8 x9 au h=>
ag Pg .lss 3 false au x9 fun t26=>
n5 W R N E P x0 x5 x8 x9 au t26 h
def cT:GK:=fun W R N E P N' vs h=>n6 W R N' (fun(i:Nat) (vs:List AV) (h:AH)=>if i=0 then n1 W R N E P (vs.getD 0 aa) h else E i vs h) P (vs.getD 0 aa) (vs.getD 1 aa) (vs.getD 2 aa) (vs.getD 3 aa) (vs.getD 4 aa) h
def n7:N5:=fun W R N E P x0 x5 x8 x9 au h=>
dT (cT W R N E P) [x0,x5,x8,x9,au] h
def n8:N3:=fun W R N E P x0 x1 x5 h=>
(a_ x1=false)/\bO x1 fun t27=>
n7 W R N E P x0 x5 x1 t27 (.sc (.int .i64 0)) h
def n9:N2:=fun W R N E P x0 x1 h=>
n8 W R N E P x0 x1 (.sc (.slice none 0 0)) h
def aZ:N2:=fun W R N E P x0 x1 h=>
n9 W R N E P x0 x1 h
theorem aO{x0 x1:AV}{h:AH}{M:WK}{R:RK}(hp:aZ (fun id=>M id\/h.next<=id) (aK Pg [.tmp 4] R) (aK Pg [.tmp 4] R) (fun _ _ _=>False) (fun v h=>R (.b6 v) h) x0 x1 h):aB Pg 70 [x0,x1] h M R:=
 fin (n:=30) (pl:=[(5,⟨[(none,(fr 0 15))],false,[],[]⟩)]) (rs:=[.tmp 4]) (L:=rs) (fun c=>(a2 aZ 0 1 c)) Tryz.mixed Tryz.func70 (fun c=>
(sq (a2 aZ 0 1 c)
(sq (a2 n9 0 1 c)
(sn
(sl (a1 n1 5 c))
(sq (a3 n8 0 1 5 c)
(bk 0 (lp [0,5,8,9,10] rs [(0,[5])] (a5 n7 0 5 8 9 10 c) cT (fun i vs h=>if i=0 then n1 c.W c.R c.N c.E c.P (vs.getD 0 aa) h else c.E i vs h) (.b (.t .o)) fun c=>
(sq (a5 n6 0 5 8 9 10 c)
(sn
(sn
(sm (a5 n2 0 5 8 9 10 c))
(bk 1 (sq (a5 n4 0 5 8 9 10 c)
(sm (a6 n3 0 5 7 8 9 10 c)))))
(cd (a6 n5 0 5 8 9 10 11 c) tr tr)))))))))) hp
attribute [simp] n1 n2 n3 n4 n5 n6 n8 n9 aZ
end sR
namespace vS
abbrev rs:List Nat:=[8]
def n1:N0:=fun _ R _ _ _ h=>
R [(.sc (.bool true))] h
def n2:N2:=fun W R N E P x0 x3 h=>
aY x0 fun t1=>
ah (some 4) t1 fun t2=>
al (some false) (some 1) t2 h fun t3 _=>
dK (some (1,3,[.int .i64 0])) 1 [(0,x3)] h fun t5 h6=>
eh (some (1,8,3)) t3 t5 h6 W fun t7 h8=>
aY x0 fun t9=>
ah (some 4) t9 fun t10=>
aE (some 1) t10 t7 h8 W fun qz=>
n1 W R N E P qz
def n3:N3:=fun W R N E P x0 x3 x5 h=>
aY x0 fun t12=>
ah (some 5) t12 fun t13=>
ah (some 2) t13 fun t14=>
al (some false) (some 1) t14 h fun t15 _=>
al (some true) (some 7) x5 h fun t17 _=>
dK (some (7,38,[.int .i64 0,.string ⟨#[]⟩,.slice none 0 0,.int .i64 0,.bool false,.int .u64 0,.int .u64 0])) 1 [(0,t17)] h fun t19 vJ=>
eh (some (7,80,38)) t15 t19 vJ W fun t21 yS=>
aY x0 fun t23=>
ah (some 5) t23 fun t24=>
ah (some 2) t24 fun t25=>
aE (some 1) t25 t21 yS W fun nH=>
n2 W R N E P x0 x3 nH
def n4:N4:=fun W R N E P x0 x3 x5 x6 h=>
∃Hd:Nat->Nat,(∀i∈[3,5],h.obj (Hd i)≠none)/\(
ah (some 0) x6 fun t27=>
al (some false) (some 1) t27 h fun t28 _=>
ah (some 1) x6 fun t30=>
al (some false) (some 1) t30 h fun t31 i32=>
(i32=Hd 3)/\(
ah (some 2) x6 fun t33=>
al (some false) (some 1) t33 h fun t34 i35=>
(i35=Hd 5)/\(
ah (some 4) x5 fun t36=>
aE (some 1) t36 t28 h (jG W Hd [3,5]) fun vF=>
ah (some 5) x5 fun t38=>
aE (some 1) t38 t31 vF (jG W Hd [5]) fun yO=>
ah (some 6) x5 fun t40=>
aE (some 1) t40 t34 yO W fun DA=>
n3 W R N E P x0 x3 x5 DA)))
def n5:N0:=fun _ R _ _ _ h=>
R [(.sc (.bool false))] h
def n6:N2:=fun W R N E P x0 x3 h=>
aY x0 fun t42=>
ah (some 8) t42 fun t43=>
aE (some 1) t43 x3 h W fun yN=>
n5 W R N E P yN
def n7:N5:=fun W R N E P x0 x3 x5 x6 dD h=>
aM dD (
n6 W R N E P x0 x3 h) (
n4 W R N E P x0 x3 x5 x6 h)
def n8:N4:=fun W R N E P x0 x3 x5 x6 h=>
aY x0 fun t45=>
ah (some 5) t45 fun t46=>
ah (some 2) t46 fun t47=>
al (some false) (some 1) t47 h fun t48 _=>
(a_ t48=false)/\bO t48 fun t50=>
ag Pg .eql 3 true t50 (.sc (.int .i64 4096)) fun t51=>
n7 W R N E P x0 x3 x5 x6 t51 h
def n9:N4:=fun W R N E P x0 x1 x2 x3 h=>
dS 7 38 x1 h fun t52 vz=>
dS 3 100 x2 vz fun t54 FR=>
n8 W R N E P x0 x3 t52 t54 FR
theorem aO{x0 x1 x2 x3:AV}{h:AH}{M:WK}{R:RK}(hp:n9 (fun id=>M id\/h.next<=id) (aK Pg [.tmp 8] R) (aK Pg [.tmp 8] R) (fun _ _ _=>False) (fun v h=>R (.b6 v) h) x0 x1 x2 x3 h):aB Pg 71 [x0,x1,x2,x3] h M R:=
 fin (n:=51) (pl:=[(4,⟨[(none,[(0,false),(1,false),(2,false),(3,true),(4,false),(5,true),(6,false),(7,false),(8,false),(9,false),(10,false),(11,false)])],true,[],[]⟩),(5,⟨[(none,(fr 0 13))],false,[],[]⟩)]) (rs:=[.tmp 8]) (L:=rs) (fun c=>(a4 n9 0 1 2 3 c)) Tryz.mixed Tryz.func71 (fun c=>
(sq (a4 n9 0 1 2 3 c)
(sn
(sn
(sq (a3 n3 0 3 5 c)
(sq (a2 n2 0 3 c)
(sl (a0 n1 c))))
(sm (a4 n4 0 3 5 6 c)))
(sq (a4 n8 0 3 5 6 c)
(cd (a5 n7 0 3 5 6 15 c) (sq (a2 n6 0 3 c)
(sl (a0 n5 c))) tr))))) hp
attribute [simp] n1 n2 n3 n4 n5 n6 n7 n8 n9
end vS
namespace eC
abbrev rs:List Nat:=[12]
def n1:N0:=fun _ R _ _ _ h=>
R [(.sc (.bool true))] h
def n2:N6:=fun _ _ N _ _ x0 x2 x3 x5 au aR h=>
aY x0 fun t1=>
ah (some 0) t1 fun t2=>
al (some false) (some 1) t2 h fun t3 _=>
cj (some (6,none)) t3 aR fun t5=>
ah (some 4) t5 fun t6=>
al (some false) (some 1) t6 h fun t7 _=>
ag Pg .add 3 true (.sc (.int .i64 1)) t7 fun t9=>
ag Pg .add 3 false aR t9 fun t10=>
N [x0,x2,x3,x5,au,t10] h
def n3:N0:=fun _ R _ _ _ h=>
R [(.sc (.bool false))] h
def n4:N7:=fun W R N E P x0 x2 x3 x5 au aR iZ h=>
aM iZ (
n3 W R N E P h) (
n2 W R N E P x0 x2 x3 x5 au aR h)
def n5:N8:=fun W R N E P x0 x2 x3 x5 au aR bV jK h=>
ah (some 1) bV fun t11=>
al (some false) (some 1) t11 h fun t12 _=>
al (some true) (some 3) au h fun t14 _=>
aC Pg W 69 [x0,t12,jK,t14,x5] h (fun t16 vO=>
gM .not t16 fun t18=>
n4 W R N E P x0 x2 x3 x5 au aR t18 vO) P
def n6:GQ:=fun _ _ N _ _ x0 x2 x3 x5 au aR bV jK eo ms pP h=>
ag Pg .add 3 true pP (.sc (.int .i64 1)) fun t19=>
N [x0,x2,x3,x5,au,aR,bV,jK,eo,ms,t19] h
def n7:Is:=fun W R N E P x0 x2 x3 x5 au aR bV jK q8 eo ms pP h=>
ah (some 0) q8 fun t20=>
al (some false) (some 1) t20 h fun t21 _=>
fC Pg (some (9,3)) x3 t21 false h fun t23 _=>
dK (some (1,3,[.int .i64 0])) 1 [(0,t23)] h fun t25 nH=>
eh (some (1,8,3)) jK t25 nH W fun t27 sF=>
n6 W R N E P x0 x2 x3 x5 au aR bV t27 eo ms pP sF
def n8:GQ:=fun W R N E P x0 x2 x3 x5 au aR bV jK eo ms pP h=>
cj (some (2,none)) eo pP fun t29=>
al (some true) (some 2) t29 h fun t30 _=>
bn (some [.string ⟨#[]⟩,.int .i64 0]) 2 67 h fun t32 H2=>
aE (some 2) t32 t30 H2 W fun yQ=>
n7 W R N E P x0 x2 x3 x5 au aR bV jK t32 eo ms pP yQ
def n9:Is:=fun W R N E P x0 x2 x3 x5 au aR bV jK eo ms pP J0 h=>
aM J0 (
n8 W R N E P x0 x2 x3 x5 au aR bV jK eo ms pP h) (
E 4 [x0,x2,x3,x5,au,aR,bV,jK] h)
def aZ:GQ:=fun W R N E P x0 x2 x3 x5 au aR bV jK eo ms pP h=>
ag Pg .lss 3 false pP ms fun t35=>
n9 W R N E P x0 x2 x3 x5 au aR bV jK eo ms pP t35 h
def ju:GK:=fun W R N E P N' vs h=>aZ W R N' (fun(i:Nat) (vs:List AV) (h:AH)=>if i=4 then n5 W R N E P (vs.getD 0 aa) (vs.getD 1 aa) (vs.getD 2 aa) (vs.getD 3 aa) (vs.getD 4 aa) (vs.getD 5 aa) (vs.getD 6 aa) (vs.getD 7 aa) h else if i=1 then n2 W R N E P (vs.getD 0 aa) (vs.getD 1 aa) (vs.getD 2 aa) (vs.getD 3 aa) (vs.getD 4 aa) (vs.getD 5 aa) h else E i vs h) P (vs.getD 0 aa) (vs.getD 1 aa) (vs.getD 2 aa) (vs.getD 3 aa) (vs.getD 4 aa) (vs.getD 5 aa) (vs.getD 6 aa) (vs.getD 7 aa) (vs.getD 8 aa) (vs.getD 9 aa) (vs.getD 10 aa) h
def bc:GQ:=fun W R N E P x0 x2 x3 x5 au aR bV jK eo ms pP h=>
dT (ju W R N E P) [x0,x2,x3,x5,au,aR,bV,jK,eo,ms,pP] h
def ba:N8:=fun W R N E P x0 x2 x3 x5 au aR bV jK h=>
ah (some 2) bV fun t36=>
al (some false) (some 1) t36 h fun t37 _=>
(a_ t37=false)/\bO t37 fun t39=>
bc W R N E P x0 x2 x3 x5 au aR bV jK t37 t39 (.sc (.int .i64 0)) h
def br:N7:=fun W R N E P x0 x2 x3 x5 au aR bV h=>
ba W R N E P x0 x2 x3 x5 au aR bV (.sc (.slice none 0 0)) h
def bF:N6:=fun W R N E P x0 x2 x3 x5 au aR h=>
n2 W R N E P x0 x2 x3 x5 au aR h
def bM:N8:=fun _ _ N _ _ x0 x2 x3 x5 au aR bV dD h=>
ag Pg .add 3 true dD (.sc (.int .i64 1)) fun t40=>
N [x0,x2,x3,x5,au,aR,bV,t40] h
def bP:N9:=fun W R N E P x0 x2 x3 x5 au aR bV dD gq h=>
aM gq (
E 2 [x0,x2,x3,x5,au,aR] h) (
bM W R N E P x0 x2 x3 x5 au aR bV dD h)
def bN:N9:=fun W R N E P x0 x2 x3 x5 au aR bV dD dM h=>
aY x0 fun t41=>
ah (some 5) t41 fun t42=>
ah (some 2) t42 fun t43=>
al (some false) (some 1) t43 h fun t44 _=>
(a_ t44=false)/\bO t44 fun t46=>
ag Pg .eql 3 false t46 dM fun t47=>
bP W R N E P x0 x2 x3 x5 au aR bV dD t47 h
def bW:N0:=fun _ R _ _ _ h=>
R [(.sc (.bool false))] h
def bT:tS:=fun W R N E P x0 x2 x3 x5 au aR bV dD dM gJ h=>
aM gJ (
bW W R N E P h) (
bN W R N E P x0 x2 x3 x5 au aR bV dD dM h)
def bX:N9:=fun W R N E P x0 x2 x3 x5 au aR bV dD dM h=>
ag Pg .add 3 true aR (.sc (.int .i64 1)) fun t48=>
ag Pg .add 3 true aR (.sc (.int .i64 1)) fun t49=>
ah (some 4) bV fun t50=>
al (some false) (some 1) t50 h fun t51 _=>
ag Pg .add 3 false t49 t51 fun t53=>
al (some true) (some 3) au h fun t54 _=>
aC Pg W 94 [x0,t48,t53,x3,t54,x5] h (fun t56 BB=>
gM .not t56 fun t58=>
bT W R N E P x0 x2 x3 x5 au aR bV dD dM t58 BB) P
def cl:N8:=fun W R N E P x0 x2 x3 x5 au aR bV dD h=>
aY x0 fun t59=>
ah (some 5) t59 fun t60=>
ah (some 2) t60 fun t61=>
al (some false) (some 1) t61 h fun t62 _=>
(a_ t62=false)/\bO t62 fun t64=>
bX W R N E P x0 x2 x3 x5 au aR bV dD t64 h
def cq:N9:=fun W R N E P x0 x2 x3 x5 au aR bV dD eJ h=>
aM eJ (
cl W R N E P x0 x2 x3 x5 au aR bV dD h) (
E 2 [x0,x2,x3,x5,au,aR] h)
def cL:N8:=fun W R N E P x0 x2 x3 x5 au aR bV dD h=>
ah (some 3) bV fun t65=>
al (some false) (some 1) t65 h fun t66 _=>
ag Pg .lss 3 false dD t66 fun t68=>
cq W R N E P x0 x2 x3 x5 au aR bV dD t68 h
def FX:GK:=fun W R N E P N' vs h=>cL W R N' (fun(i:Nat) (vs:List AV) (h:AH)=>if i=2 then bF W R N E P (vs.getD 0 aa) (vs.getD 1 aa) (vs.getD 2 aa) (vs.getD 3 aa) (vs.getD 4 aa) (vs.getD 5 aa) h else if i=1 then n2 W R N E P (vs.getD 0 aa) (vs.getD 1 aa) (vs.getD 2 aa) (vs.getD 3 aa) (vs.getD 4 aa) (vs.getD 5 aa) h else E i vs h) P (vs.getD 0 aa) (vs.getD 1 aa) (vs.getD 2 aa) (vs.getD 3 aa) (vs.getD 4 aa) (vs.getD 5 aa) (vs.getD 6 aa) (vs.getD 7 aa) h
def cN:N8:=fun W R N E P x0 x2 x3 x5 au aR bV dD h=>
dT (FX W R N E P) [x0,x2,x3,x5,au,aR,bV,dD] h
def cG:N7:=fun W R N E P x0 x2 x3 x5 au aR bV h=>
cN W R N E P x0 x2 x3 x5 au aR bV (.sc (.int .i64 0)) h
def cE:N8:=fun W R N E P x0 x2 x3 x5 au aR bV fM h=>
aM fM (
cG W R N E P x0 x2 x3 x5 au aR bV h) (
br W R N E P x0 x2 x3 x5 au aR bV h)
def cV:N7:=fun W R N E P x0 x2 x3 x5 au aR bV h=>
ah (some 0) bV fun t69=>
al (some false) (some 1) t69 h fun t70 _=>
ag Pg .eql 9 true t70 (.sc (.string ⟨#[114,101,112,101,97,116]⟩)) fun t72=>
cE W R N E P x0 x2 x3 x5 au aR bV t72 h
def cX:N6:=fun W R N E P x0 x2 x3 x5 au aR h=>
aY x0 fun t73=>
ah (some 0) t73 fun t74=>
al (some false) (some 1) t74 h fun t75 _=>
cj (some (6,none)) t75 aR fun t77=>
al (some true) (some 6) t77 h fun t78 _=>
bn (some [.string ⟨#[]⟩,.string ⟨#[]⟩,.slice none 0 0,.int .i64 0,.int .i64 0,.int .i64 0]) 6 46 h fun t80 LX=>
aE (some 6) t80 t78 LX W fun LW=>
cV W R N E P x0 x2 x3 x5 au aR t80 LW
def cU:N7:=fun W R N E P x0 x2 x3 x5 au aR ns h=>
aM ns (
cX W R N E P x0 x2 x3 x5 au aR h) (
E 0 [] h)
def dG:N6:=fun W R N E P x0 x2 x3 x5 au aR h=>
ag Pg .lss 3 false aR x2 fun t83=>
cU W R N E P x0 x2 x3 x5 au aR t83 h
def cT:GK:=fun W R N E P N' vs h=>dG W R N' (fun(i:Nat) (vs:List AV) (h:AH)=>if i=0 then n1 W R N E P h else E i vs h) P (vs.getD 0 aa) (vs.getD 1 aa) (vs.getD 2 aa) (vs.getD 3 aa) (vs.getD 4 aa) (vs.getD 5 aa) h
def dV:N6:=fun W R N E P x0 x2 x3 x5 au aR h=>
dT (cT W R N E P) [x0,x2,x3,x5,au,aR] h
def ea:N6:=fun W R N E P x0 x1 x2 x3 x5 au h=>
dV W R N E P x0 x2 x3 x5 au x1 h
def fq:N6:=fun W R N E P x0 x1 x2 x3 x4 x5 h=>
dS 3 100 x4 h fun t84 Bx=>
ea W R N E P x0 x1 x2 x3 x5 t84 Bx
theorem aO{x0 x1 x2 x3 x4 x5:AV}{h:AH}{M:WK}{R:RK}(hp:fq (fun id=>M id\/h.next<=id) (aK Pg [.tmp 12] R) (aK Pg [.tmp 12] R) (fun _ _ _=>False) (fun v h=>R (.b6 v) h) x0 x1 x2 x3 x4 x5 h):aB Pg 94 [x0,x1,x2,x3,x4,x5] h M R:=
 fin (n:=101) (pl:=[]) (rs:=[.tmp 12]) (L:=rs) (fun c=>(a6 fq 0 1 2 3 4 5 c)) Tryz.mixed Tryz.func94 (fun c=>
(sq (a6 fq 0 1 2 3 4 5 c)
(sn
(sl (a0 n1 c))
(sq (a6 ea 0 1 2 3 5 10 c)
(bk 0 (lp [0,2,3,5,10,13] rs [(0,[])] (a6 dV 0 2 3 5 10 13 c) cT (fun i vs h=>if i=0 then n1 c.W c.R c.N c.E c.P h else c.E i vs h) (.b (.t .o)) fun c=>
(sn
(sn
(sm (a6 n2 0 2 3 5 10 13 c))
(bk 1 (sq (a6 cX 0 2 3 5 10 13 c)
(sn
(sq (a7 br 0 2 3 5 10 13 14 c)
(sn
(sq (a8 n5 0 2 3 5 10 13 14 17 c)
(cd (a7 n4 0 2 3 5 10 13 100 c) (sl (a0 n3 c)) tr))
(sq (a8 ba 0 2 3 5 10 13 14 17 c)
(bk 4 (lp [0,2,3,5,10,13,14,17,79,80,81] rs [(4,[0,2,3,5,10,13,14,17]),(1,[0,2,3,5,10,13]),(0,[])] (DZ bc 0 2 3 5 10 13 14 17 79 80 81 c) ju (fun i vs h=>if i=4 then n5 c.W c.R c.N c.E c.P (vs.getD 0 aa) (vs.getD 1 aa) (vs.getD 2 aa) (vs.getD 3 aa) (vs.getD 4 aa) (vs.getD 5 aa) (vs.getD 6 aa) (vs.getD 7 aa) h else if i=1 then n2 c.W c.R c.N c.E c.P (vs.getD 0 aa) (vs.getD 1 aa) (vs.getD 2 aa) (vs.getD 3 aa) (vs.getD 4 aa) (vs.getD 5 aa) h else c.E i vs h) (.b (.t (.b (.t .o)))) fun c=>
(sq (DZ aZ 0 2 3 5 10 13 14 17 79 80 81 c)
(sn
(sn
(sm (DZ n6 0 2 3 5 10 13 14 17 79 80 81 c))
(bk 5 (sq (DZ n8 0 2 3 5 10 13 14 17 79 80 81 c)
(sm (a12 n7 0 2 3 5 10 13 14 17 19 79 80 81 c)))))
(cd (a12 n9 0 2 3 5 10 13 14 17 79 80 81 82 c) tr tr))))))))
(sq (a7 cV 0 2 3 5 10 13 14 c)
(cd (a8 cE 0 2 3 5 10 13 14 44 c) (sn
(sm (a6 bF 0 2 3 5 10 13 c))
(sq (a7 cG 0 2 3 5 10 13 14 c)
(bk 2 (lp [0,2,3,5,10,13,14,15] rs [(2,[0,2,3,5,10,13]),(1,[0,2,3,5,10,13]),(0,[])] (a8 cN 0 2 3 5 10 13 14 15 c) FX (fun i vs h=>if i=2 then bF c.W c.R c.N c.E c.P (vs.getD 0 aa) (vs.getD 1 aa) (vs.getD 2 aa) (vs.getD 3 aa) (vs.getD 4 aa) (vs.getD 5 aa) h else if i=1 then n2 c.W c.R c.N c.E c.P (vs.getD 0 aa) (vs.getD 1 aa) (vs.getD 2 aa) (vs.getD 3 aa) (vs.getD 4 aa) (vs.getD 5 aa) h else c.E i vs h) (.b (.t (.t (.b (.t .o))))) fun c=>
(sn
(sn
(sm (a8 bM 0 2 3 5 10 13 14 15 c))
(bk 3 (sq (a8 cl 0 2 3 5 10 13 14 15 c)
(sn
(sq (a9 bN 0 2 3 5 10 13 14 15 16 c)
(cd (a9 bP 0 2 3 5 10 13 14 15 77 c) tr tr))
(sq (a9 bX 0 2 3 5 10 13 14 15 16 c)
(cd (sQ bT 0 2 3 5 10 13 14 15 16 69 c) (sl (a0 bW c)) tr))))))
(sq (a8 cL 0 2 3 5 10 13 14 15 c)
(cd (a9 cq 0 2 3 5 10 13 14 15 48 c) tr tr))))))) tr))))))
(sq (a6 dG 0 2 3 5 10 13 c)
(cd (a7 cU 0 2 3 5 10 13 23 c) tr tr))))))))) hp
attribute [simp] n1 n2 n3 n4 n5 n6 n7 n8 n9 aZ ba br bF bM bP bN bW bT bX cl cq cL cG cE cV cX cU dG ea fq
end eC
namespace dl
abbrev rs:List Nat:=[8]
def n1:N0:=fun _ R _ _ _ h=>
R [(.sc (.bool true))] h
def n2:N4:=fun _ _ N _ _ x0 x2 x7 x9 h=>
aY x0 fun t1=>
ah (some 0) t1 fun t2=>
al (some false) (some 1) t2 h fun t3 _=>
cj (some (6,none)) t3 x9 fun t5=>
ah (some 4) t5 fun t6=>
al (some false) (some 1) t6 h fun t7 _=>
ag Pg .add 3 true (.sc (.int .i64 1)) t7 fun t9=>
ag Pg .add 3 false x9 t9 fun t10=>
N [x0,x2,x7,t10] h
def n3:N0:=fun _ R _ _ _ h=>
R [(.sc (.bool false))] h
def n4:N5:=fun W R N E P x0 x2 x7 x9 aaa h=>
aM aaa (
n3 W R N E P h) (
n2 W R N E P x0 x2 x7 x9 h)
def n5:N5:=fun W R N E P x0 x2 x7 x9 ax h=>
gM .not ax fun t11=>
n4 W R N E P x0 x2 x7 x9 t11 h
def n6:N7:=fun _ _ N _ _ x0 x2 x7 x9 au ax aP h=>
ag Pg .add 3 true aP (.sc (.int .i64 1)) fun t12=>
N [x0,x2,x7,x9,au,ax,t12] h
def n7:N8:=fun W R N E P x0 x2 x7 x9 au ax aP To h=>
aM To (
E 3 [x0,x2,x7,x9,ax] h) (
n6 W R N E P x0 x2 x7 x9 au ax aP h)
def n8:N8:=fun W R N E P x0 x2 x7 x9 au ax aP aR h=>
aY x0 fun t13=>
ah (some 5) t13 fun t14=>
ah (some 2) t14 fun t15=>
al (some false) (some 1) t15 h fun t16 _=>
(a_ t16=false)/\bO t16 fun t18=>
ag Pg .eql 3 false t18 aR fun t19=>
n7 W R N E P x0 x2 x7 x9 au ax aP t19 h
def n9:N7:=fun W R N E P x0 x2 x7 x9 au aP aR h=>
ag Pg .add 3 true x9 (.sc (.int .i64 1)) fun t20=>
ag Pg .add 3 true x9 (.sc (.int .i64 1)) fun t21=>
ah (some 4) au fun t22=>
al (some false) (some 1) t22 h fun t23 _=>
ag Pg .add 3 false t21 t23 fun t25=>
al (some true) (some 3) x7 h fun t26 _=>
aC Pg W 38 [x0,t20,t25,t26] h (fun t28 QU=>
n8 W R N E P x0 x2 x7 x9 au t28 aP aR QU) P
def aZ:N6:=fun W R N E P x0 x2 x7 x9 au aP h=>
aY x0 fun t30=>
ah (some 5) t30 fun t31=>
ah (some 2) t31 fun t32=>
al (some false) (some 1) t32 h fun t33 _=>
(a_ t33=false)/\bO t33 fun t35=>
n9 W R N E P x0 x2 x7 x9 au aP t35 h
def bc:N8:=fun W R N E P x0 x2 x7 x9 au ax aP tl h=>
aM tl (
aZ W R N E P x0 x2 x7 x9 au aP h) (
E 3 [x0,x2,x7,x9,ax] h)
def ba:N9:=fun W R N E P x0 x2 x7 x9 au ax aP eJ je h=>
aT eJ je (.sc (.bool false)) fun t36=>
bc W R N E P x0 x2 x7 x9 au ax aP t36 h
def br:N8:=fun W R N E P x0 x2 x7 x9 au ax aP eJ h=>
bE true eJ (
ba W R N E P x0 x2 x7 x9 au ax aP eJ ax h) (
ba W R N E P x0 x2 x7 x9 au ax aP eJ aa h)
def bF:N7:=fun W R N E P x0 x2 x7 x9 au ax aP h=>
ah (some 3) au fun t37=>
al (some false) (some 1) t37 h fun t38 _=>
ag Pg .lss 3 false aP t38 fun t40=>
br W R N E P x0 x2 x7 x9 au ax aP t40 h
def ju:GK:=fun W R N E P N' vs h=>bF W R N' (fun(i:Nat) (vs:List AV) (h:AH)=>if i=3 then n5 W R N E P (vs.getD 0 aa) (vs.getD 1 aa) (vs.getD 2 aa) (vs.getD 3 aa) (vs.getD 4 aa) h else if i=2 then n5 W R N E P (vs.getD 0 aa) (vs.getD 1 aa) (vs.getD 2 aa) (vs.getD 3 aa) (vs.getD 4 aa) h else if i=1 then n2 W R N E P (vs.getD 0 aa) (vs.getD 1 aa) (vs.getD 2 aa) (vs.getD 3 aa) h else E i vs h) P (vs.getD 0 aa) (vs.getD 1 aa) (vs.getD 2 aa) (vs.getD 3 aa) (vs.getD 4 aa) (vs.getD 5 aa) (vs.getD 6 aa) h
def bM:N7:=fun W R N E P x0 x2 x7 x9 au ax aP h=>
dT (ju W R N E P) [x0,x2,x7,x9,au,ax,aP] h
def bP:N6:=fun W R N E P x0 x2 x7 x9 au ax h=>
bM W R N E P x0 x2 x7 x9 au ax (.sc (.int .i64 0)) h
def bN:N7:=fun W R N E P x0 x2 x7 x9 au dD dM h=>
ag Pg .add 3 true x9 (.sc (.int .i64 1)) fun t41=>
ag Pg .add 3 true x9 (.sc (.int .i64 1)) fun t42=>
ah (some 4) au fun t43=>
al (some false) (some 1) t43 h fun t44 _=>
ag Pg .add 3 false t42 t44 fun t46=>
ah (some 1) x7 fun t47=>
al (some false) (some 1) t47 h fun t48 _=>
ag Pg .or 36 false t48 dD fun t50=>
ah (some 2) x7 fun t51=>
al (some false) (some 1) t51 h fun t52 _=>
ag Pg .or 36 false t52 dM fun t54=>
bZ (some ([.bool false,.int .u64 0,.int .u64 0],.inl [(0,1),(1,1),(2,1)])) [(0,(.sc (.bool true))),(1,t50),(2,t54)] fun t55=>
aC Pg W 38 [x0,t41,t46,t55] h (fun t56 BB=>
n5 W R N E P x0 x2 x7 x9 t56 BB) P
def bW:N8:=fun W R N E P x0 x2 x7 x9 au dD dM aan h=>
aM aan (
n2 W R N E P x0 x2 x7 x9 h) (
bN W R N E P x0 x2 x7 x9 au dD dM h)
def bT:N7:=fun W R N E P x0 x2 x7 x9 au dD dM h=>
ah (some 2) x7 fun t58=>
al (some false) (some 1) t58 h fun t59 _=>
ag Pg .and 36 false t59 dD fun t61=>
ah (some 1) x7 fun t62=>
al (some false) (some 1) t62 h fun t63 _=>
ag Pg .and 36 false dM t63 fun t65=>
ag Pg .neq 36 false t61 t65 fun t66=>
bW W R N E P x0 x2 x7 x9 au dD dM t66 h
def bX:N7:=fun W R N E P x0 x2 x7 x9 au bV dD h=>
ah (some 3) au fun t67=>
al (some false) (some 1) t67 h fun t68 _=>
qi (some .u64) t68 fun t70=>
ah (some 0) bV fun t71=>
al (some false) (some 1) t71 h fun t72 _=>
ag Pg .shl 36 false t70 t72 fun t74=>
bT W R N E P x0 x2 x7 x9 au dD t74 h
def cl:N6:=fun W R N E P x0 x2 x7 x9 au bV h=>
ah (some 1) bV fun t75=>
al (some false) (some 1) t75 h fun t76 _=>
ag Pg .shl 36 true (.sc (.int .u64 1)) t76 fun t78=>
ag Pg .sub 36 true t78 (.sc (.int .u64 1)) fun t79=>
ah (some 0) bV fun t80=>
al (some false) (some 1) t80 h fun t81 _=>
ag Pg .shl 36 false t79 t81 fun t83=>
bX W R N E P x0 x2 x7 x9 au bV t83 h
def cq:N5:=fun W R N E P x0 x2 x7 x9 au h=>
aY x0 fun t84=>
ah (some 2) t84 fun t85=>
al (some false) (some 1) t85 h fun t86 _=>
ah (some 1) au fun t88=>
al (some false) (some 1) t88 h fun t89 _=>
fC Pg (some (9,56)) t86 t89 false h fun t91 _=>
bn (some [.int .i64 0,.int .i64 0]) 2 56 h fun t93 VV=>
aE (some 2) t93 t91 VV W fun h95=>
cl W R N E P x0 x2 x7 x9 au t93 h95
def cL:N5:=fun W R N E P x0 x2 x7 x9 au h=>
∃Hd:Nat->Nat,(∀i∈[2,7,9],h.obj (Hd i)≠none)/\(
ah (some 1) au fun t96=>
al (some false) (some 1) t96 h fun t97 i98=>
(i98=Hd 2)/\(
ah (some 2) au fun t99=>
al (some false) (some 1) t99 h fun t100 _=>
al (some true) (some 3) x7 h fun t102 i103=>
(i103=Hd 7)/\(
ah (some 5) au fun t104=>
al (some false) (some 1) t104 h fun t105 i106=>
(i106=Hd 9)/\(
aC Pg (jG W Hd [2,7,9]) 70 [x0,t100] h (fun t107 Oo=>
aC Pg W 69 [x0,t97,t107,t102,t105] Oo (fun t109 acp=>
n5 W R N E P x0 x2 x7 x9 t109 acp) P) P))))
def cN:N6:=fun W R N E P x0 x2 x7 x9 au jK h=>
∃Hd:Nat->Nat,(∀i∈[8,10],h.obj (Hd i)≠none)/\(
ah (some 2) au fun t111=>
al (some false) (some 1) t111 h fun t112 _=>
sU (some 2) t112 none (some (.sc (.int .i64 1))) h fun t114=>
al (some true) (some 3) x7 h fun t115 i116=>
(i116=Hd 8)/\(
ah (some 5) au fun t117=>
al (some false) (some 1) t117 h fun t118 i119=>
(i119=Hd 10)/\(
aC Pg (jG W Hd [8,10]) 70 [x0,t114] h (fun t120 acm=>
bZ (some ([.int .i64 0,.string ⟨#[]⟩,.slice none 0 0,.int .i64 0,.bool false,.int .u64 0,.int .u64 0],.inl [(0,1),(1,1),(2,1),(3,1),(4,1),(5,1),(6,1)])) [(0,(.sc (.int .i64 2))),(2,t120),(3,jK)] fun t122=>
aC Pg W 71 [x0,t122,t115,t118] acm (fun t123 ack=>
n5 W R N E P x0 x2 x7 x9 t123 ack) P) P)))
def cG:N5:=fun W R N E P x0 x2 x7 x9 au h=>
aY x0 fun t125=>
ah (some 2) t125 fun t126=>
al (some false) (some 1) t126 h fun t127 _=>
ah (some 2) au fun t129=>
al (some false) (some 1) t129 h fun t130 _=>
cj (some (2,none)) t130 (.sc (.int .i64 1)) fun t132=>
ah (some 0) t132 fun t133=>
al (some false) (some 1) t133 h fun t134 _=>
fC Pg (some (9,56)) t127 t134 false h fun t136 _=>
lL (some (0,1,false)) t136 fun t138=>
ah (some 2) au fun t139=>
al (some false) (some 1) t139 h fun t140 _=>
cj (some (2,none)) t140 (.sc (.int .i64 1)) fun t142=>
ah (some 1) t142 fun t143=>
al (some false) (some 1) t143 h fun t144 _=>
ag Pg .add 3 false t138 t144 fun t146=>
cN W R N E P x0 x2 x7 x9 au t146 h
def cE:N5:=fun W R N E P x0 x2 x7 x9 au h=>
∃Hd:Nat->Nat,(∀i∈[6,8],h.obj (Hd i)≠none)/\(
ah (some 2) au fun t147=>
al (some false) (some 1) t147 h fun t148 _=>
al (some true) (some 3) x7 h fun t150 i151=>
(i151=Hd 6)/\(
ah (some 5) au fun t152=>
al (some false) (some 1) t152 h fun t153 i154=>
(i154=Hd 8)/\(
aC Pg (jG W Hd [6,8]) 70 [x0,t148] h (fun t155 aca=>
bZ (some ([.int .i64 0,.string ⟨#[]⟩,.slice none 0 0,.int .i64 0,.bool false,.int .u64 0,.int .u64 0],.inl [(0,1),(1,1),(2,1),(3,1),(4,1),(5,1),(6,1)])) [(0,(.sc (.int .i64 3))),(2,t155)] fun t157=>
aC Pg W 71 [x0,t157,t150,t153] aca (fun t158 ab_=>
n5 W R N E P x0 x2 x7 x9 t158 ab_) P) P)))
def cV:N7:=fun W R N E P x0 x2 x7 x9 au ax aab h=>
aM aab (
cE W R N E P x0 x2 x7 x9 au h) (
n5 W R N E P x0 x2 x7 x9 ax h)
def cX:N7:=fun W R N E P x0 x2 x7 x9 au ax iT h=>
ag Pg .eql 9 true iT (.sc (.string ⟨#[114,101,115,101,116]⟩)) fun t160=>
cV W R N E P x0 x2 x7 x9 au ax t160 h
def cU:N8:=fun W R N E P x0 x2 x7 x9 au ax iT aad h=>
aM aad (
cG W R N E P x0 x2 x7 x9 au h) (
cX W R N E P x0 x2 x7 x9 au ax iT h)
def dG:N7:=fun W R N E P x0 x2 x7 x9 au ax iT h=>
ag Pg .eql 9 true iT (.sc (.string ⟨#[109,101,97,115,117,114,101]⟩)) fun t161=>
cU W R N E P x0 x2 x7 x9 au ax iT t161 h
def dV:N8:=fun W R N E P x0 x2 x7 x9 au ax iT MW h=>
aM MW (
cL W R N E P x0 x2 x7 x9 au h) (
dG W R N E P x0 x2 x7 x9 au ax iT h)
def ea:N7:=fun W R N E P x0 x2 x7 x9 au ax iT h=>
ag Pg .eql 9 true iT (.sc (.string ⟨#[117,115,101]⟩)) fun t162=>
dV W R N E P x0 x2 x7 x9 au ax iT t162 h
def fq:N8:=fun W R N E P x0 x2 x7 x9 au ax iT gq h=>
aM gq (
cq W R N E P x0 x2 x7 x9 au h) (
ea W R N E P x0 x2 x7 x9 au ax iT h)
def jp:N7:=fun W R N E P x0 x2 x7 x9 au ax iT h=>
ag Pg .eql 9 true iT (.sc (.string ⟨#[105,102]⟩)) fun t163=>
fq W R N E P x0 x2 x7 x9 au ax iT t163 h
def jD:N8:=fun W R N E P x0 x2 x7 x9 au ax iT AC h=>
aM AC (
bP W R N E P x0 x2 x7 x9 au ax h) (
jp W R N E P x0 x2 x7 x9 au ax iT h)
def ir:N7:=fun W R N E P x0 x2 x7 x9 au ax iT h=>
ag Pg .eql 9 true iT (.sc (.string ⟨#[114,101,112,101,97,116]⟩)) fun t164=>
jD W R N E P x0 x2 x7 x9 au ax iT t164 h
def jC:N6:=fun W R N E P x0 x2 x7 x9 au ax h=>
ah (some 0) au fun t165=>
al (some false) (some 1) t165 h fun t166 _=>
ir W R N E P x0 x2 x7 x9 au ax t166 h
def iV:N5:=fun W R N E P x0 x2 x7 x9 au h=>
jC W R N E P x0 x2 x7 x9 au (.sc (.bool true)) h
def j_:N4:=fun W R N E P x0 x2 x7 x9 h=>
aY x0 fun t168=>
ah (some 0) t168 fun t169=>
al (some false) (some 1) t169 h fun t170 _=>
cj (some (6,none)) t170 x9 fun t172=>
al (some true) (some 6) t172 h fun t173 _=>
bn (some [.string ⟨#[]⟩,.string ⟨#[]⟩,.slice none 0 0,.int .i64 0,.int .i64 0,.int .i64 0]) 6 46 h fun t175 ab9=>
aE (some 6) t175 t173 ab9 W fun Oi=>
iV W R N E P x0 x2 x7 x9 t175 Oi
def iq:N5:=fun W R N E P x0 x2 x7 x9 lE h=>
aM lE (
j_ W R N E P x0 x2 x7 x9 h) (
E 0 [] h)
def iN:N4:=fun W R N E P x0 x2 x7 x9 h=>
ag Pg .lss 3 false x9 x2 fun t178=>
iq W R N E P x0 x2 x7 x9 t178 h
def cT:GK:=fun W R N E P N' vs h=>iN W R N' (fun(i:Nat) (vs:List AV) (h:AH)=>if i=0 then n1 W R N E P h else E i vs h) P (vs.getD 0 aa) (vs.getD 1 aa) (vs.getD 2 aa) (vs.getD 3 aa) h
def jN:N4:=fun W R N E P x0 x2 x7 x9 h=>
dT (cT W R N E P) [x0,x2,x7,x9] h
def jo:N4:=fun W R N E P x0 x1 x2 x7 h=>
jN W R N E P x0 x2 x7 x1 h
def jf:N4:=fun W R N E P x0 x1 x2 x3 h=>
dS 3 100 x3 h fun t179 Oh=>
jo W R N E P x0 x1 x2 t179 Oh
theorem aO{x0 x1 x2 x3:AV}{h:AH}{M:WK}{R:RK}(hp:jf (fun id=>M id\/h.next<=id) (aK Pg [.tmp 8] R) (aK Pg [.tmp 8] R) (fun _ _ _=>False) (fun v h=>R (.b6 v) h) x0 x1 x2 x3 h):aB Pg 38 [x0,x1,x2,x3] h M R:=
 fin (n:=184) (pl:=[(9,⟨[(none,(fr 0 5)),(some (4,true),(fr 5 1)),(none,(fr 6 1))],false,[],[]⟩),(15,⟨[(none,(fr 0 9))],false,[],[]⟩),(16,⟨[(none,(fr 0 8))],false,[],[]⟩),(21,⟨[(none,[(0,false),(1,false),(2,true),(3,false),(4,false),(5,false),(7,true),(8,false),(9,true),(6,false),(10,false),(11,false)])],true,[],[]⟩),(23,⟨[(none,(fr 0 18))],false,[],[]⟩),(24,⟨[(none,[(0,false),(1,false),(2,false),(3,false),(4,false),(6,false),(8,true),(9,false),(10,true),(5,false),(7,false),(11,false),(12,false)])],true,[],[]⟩),(26,⟨[(none,[(0,false),(1,false),(2,false),(3,false),(6,true),(7,false),(8,true),(4,false),(5,false),(9,false),(10,false)])],true,[],[]⟩)]) (rs:=[.tmp 8]) (L:=rs) (fun c=>(a4 jf 0 1 2 3 c)) Tryz.mixed Tryz.func38 (fun c=>
(sq (a4 jf 0 1 2 3 c)
(sn
(sl (a0 n1 c))
(sq (a4 jo 0 1 2 7 c)
(bk 0 (lp [0,2,7,9] rs [(0,[])] (a4 jN 0 2 7 9 c) cT (fun i vs h=>if i=0 then n1 c.W c.R c.N c.E c.P h else c.E i vs h) (.b (.t .o)) fun c=>
(sn
(sn
(sm (a4 n2 0 2 7 9 c))
(bk 1 (sq (a4 j_ 0 2 7 9 c)
(sq (a5 iV 0 2 7 9 10 c)
(sn
(sq (a5 n5 0 2 7 9 11 c)
(cd (a5 n4 0 2 7 9 183 c) (sl (a0 n3 c)) tr))
(sq (a6 jC 0 2 7 9 10 11 c)
(bk 2 (sq (a7 ir 0 2 7 9 10 11 41 c)
(cd (a8 jD 0 2 7 9 10 11 41 42 c) (sq (a6 bP 0 2 7 9 10 11 c)
(bk 3 (lp [0,2,7,9,10,11,12] rs [(3,[0,2,7,9,11]),(2,[0,2,7,9,11]),(1,[0,2,7,9]),(0,[])] (a7 bM 0 2 7 9 10 11 12 c) ju (fun i vs h=>if i=3 then n5 c.W c.R c.N c.E c.P (vs.getD 0 aa) (vs.getD 1 aa) (vs.getD 2 aa) (vs.getD 3 aa) (vs.getD 4 aa) h else if i=2 then n5 c.W c.R c.N c.E c.P (vs.getD 0 aa) (vs.getD 1 aa) (vs.getD 2 aa) (vs.getD 3 aa) (vs.getD 4 aa) h else if i=1 then n2 c.W c.R c.N c.E c.P (vs.getD 0 aa) (vs.getD 1 aa) (vs.getD 2 aa) (vs.getD 3 aa) h else c.E i vs h) (.b (.b (.t (.b (.t .o))))) fun c=>
(sn
(sn
(sm (a7 n6 0 2 7 9 10 11 12 c))
(bk 4 (sq (a6 aZ 0 2 7 9 10 12 c)
(sq (a7 n9 0 2 7 9 10 12 13 c)
(sq (a8 n8 0 2 7 9 10 11 12 13 c)
(cd (a8 n7 0 2 7 9 10 11 12 76 c) tr tr))))))
(sn
(cd (a8 bc 0 2 7 9 10 11 12 50 c) tr tr)
(gr (gn (a7 bF 0 2 7 9 10 11 12 c) (gx (a8 br 0 2 7 9 10 11 12 48 c) (gl (a9 ba 0 2 7 9 10 11 12 48 49 c)))))))))) (sq (a7 jp 0 2 7 9 10 11 41 c)
(cd (a8 fq 0 2 7 9 10 11 41 77 c) (sq (a5 cq 0 2 7 9 10 c)
(sq (a6 cl 0 2 7 9 10 14 c)
(sq (a7 bX 0 2 7 9 10 14 15 c)
(sn
(sm (a7 bN 0 2 7 9 10 15 16 c))
(sq (a7 bT 0 2 7 9 10 15 16 c)
(cd (a8 bW 0 2 7 9 10 15 16 107 c) tr tr)))))) (sq (a7 ea 0 2 7 9 10 11 41 c)
(cd (a8 dV 0 2 7 9 10 11 41 126 c) (sm (a5 cL 0 2 7 9 10 c)) (sq (a7 dG 0 2 7 9 10 11 41 c)
(cd (a8 cU 0 2 7 9 10 11 41 139 c) (sq (a5 cG 0 2 7 9 10 c)
(sm (a6 cN 0 2 7 9 10 17 c))) (sq (a7 cX 0 2 7 9 10 11 41 c)
(cd (a7 cV 0 2 7 9 10 11 170 c) (sm (a5 cE 0 2 7 9 10 c)) tr)))))))))))))))))
(sq (a4 iN 0 2 7 9 c)
(cd (a5 iq 0 2 7 9 21 c) tr tr))))))))) hp
attribute [simp] n1 n2 n3 n4 n5 n6 n7 n8 n9 aZ bc ba br bF bP bN bW bT bX cl cq cL cN cG cE cV cX cU dG dV ea fq jp jD ir jC iV j_ iq iN jo jf
end dl
end
end Go.Proofs.YtjehibknlmehmaaGreatDoor
