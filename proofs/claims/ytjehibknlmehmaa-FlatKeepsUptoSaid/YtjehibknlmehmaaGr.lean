/- Bodies of the document's answer; printed. No condition. -/
import Derived.Test.YtjehibknlmehmaaGl
set_option maxRecDepth 100000
namespace Go.Proofs.Ytjehibknlmehmaa
section
open Go.Ab
namespace F9
abbrev rs:List Nat:=[2,3,4]
def n1:N2:=fun W R _ _ _ x2 x6 h=>
al (some true) (some 3) x6 h fun t1 _=>
aG (some 3) x2 t1 h W fun h3=>
R [x2,(.sc (.int .i64 0)),(.sc (.int .i64 0))] h3
def n2:N3:=fun _ R _ _ _ x2 x3 x4 h=>
R [x2,x3,x4] h
def n3:N4:=fun W R N E P x2 x5 x7 x8 h=>
∃Hd:Nat->Nat,(∀i∈[4,7],h.obj (Hd i)≠none)/\(
cR (some ([.int .i64 0,.int .i64 0,.slice none 0 0],.inl [(0,1),(1,1),(2,1)])) [] fun t4=>
aP x5 fun t5=>
ai (some 8) t5 fun t6=>
al (some false) (some 1) t6 h fun t7 i8=>
(i8=Hd 4)/\(
br (some (1,none)) t7 x7 fun t9=>
al (some false) (some 1) t9 h fun t10 i11=>
(i11=Hd 7)/\(
aG (some 3) x2 t4 h (h_ W Hd [4,7]) fun vS=>
n2 W R N E P x2 t10 x8 vS)))
def n4:N6:=fun W R N E P x2 x5 x6 x7 x8 pR h=>
aH pR (
n3 W R N E P x2 x5 x7 x8 h) (
n1 W R N E P x2 x6 h)
def n5:N5:=fun W R N E P x2 x5 x6 x7 x8 h=>
ah Pg .neq 3 true x8 (.sc (.int .i64 0)) fun t13=>
n4 W R N E P x2 x5 x6 x7 x8 t13 h
def n6:N3:=fun W R N E P x2 x5 x6 h=>
al (some true) (some 3) x6 h fun t14 _=>
aC Pg W 19 [t14] h (fun t16 qK=>
dm t16 0 fun t18=>
dm t16 1 fun t19=>
n5 W R N E P x2 x5 x6 t18 t19 qK) P
def n7:N2:=fun W R N E P x2 x5 h=>
aP x5 fun t20=>
ai (some 1) t20 fun t21=>
al (some false) (some 1) t21 h fun t22 _=>
aP x5 fun t24=>
ai (some 2) t24 fun t25=>
al (some false) (some 1) t25 h fun t26 _=>
aP x5 fun t28=>
ai (some 7) t28 fun t29=>
al (some false) (some 1) t29 h fun t30 _=>
(
aC Pg oY 18 [t22] h (fun t32 ub=>
(
aC Pg oY 18 [t26] ub (fun t34 oM=>
cR (some ([.int .i64 0,.int .i64 0,.slice none 0 0],.inl [(0,1),(1,1),(2,1)])) [(0,t32),(1,t34),(2,t30)] fun t36=>
bw (some [.int .i64 0,.int .i64 0,.slice none 0 0]) 3 27 oM fun t37 Hy=>
aG (some 3) t37 t36 Hy W fun vL=>
n6 W R N E P x2 x5 t37 vL) P)/\(
bw (some [.int .i64 0,.int .i64 0,.slice none 0 0]) 3 27 ub fun t40 yX=>
aC Pg oY 18 [t26] yX (fun t42 Qu=>
cR (some ([.int .i64 0,.int .i64 0,.slice none 0 0],.inl [(0,1),(1,1),(2,1)])) [(0,t32),(1,t42),(2,t30)] fun t44=>
aG (some 3) t40 t44 Qu W fun qH=>
n6 W R N E P x2 x5 t40 qH) P)/\True) P)/\(
bw (some [.int .i64 0,.int .i64 0,.slice none 0 0]) 3 27 h fun t46 yV=>
aC Pg oY 18 [t22] yV (fun t48 yU=>
aC Pg oY 18 [t26] yU (fun t50 yT=>
cR (some ([.int .i64 0,.int .i64 0,.slice none 0 0],.inl [(0,1),(1,1),(2,1)])) [(0,t48),(1,t50),(2,t30)] fun t52=>
aG (some 3) t46 t52 yT W fun vK=>
n6 W R N E P x2 x5 t46 vK) P) P)/\True
def n8:N3:=fun _ R _ _ _ x2 x3 x4 h=>
R [x2,x3,x4] h
def n9:N2:=fun W R N E P x2 x5 h=>
∃Hd:Nat->Nat,(∀i∈[4,8],h.obj (Hd i)≠none)/\(
cR (some ([.int .i64 0,.int .i64 0,.slice none 0 0],.inl [(0,1),(1,1),(2,1)])) [] fun t54=>
aP x5 fun t55=>
ai (some 4) t55 fun t56=>
al (some false) (some 1) t56 h fun t57 i58=>
(i58=Hd 4)/\(
aP x5 fun t59=>
ai (some 5) t59 fun t60=>
al (some false) (some 1) t60 h fun t61 i62=>
(i62=Hd 8)/\(
aG (some 3) x2 t54 h (h_ W Hd [4,8]) fun FH=>
n8 W R N E P x2 t57 t61 FH)))
def aQ:N3:=fun W R N E P x2 x5 ib h=>
aH ib (
n9 W R N E P x2 x5 h) (
n7 W R N E P x2 x5 h)
def a_:N2:=fun W R N E P x2 x5 h=>
aP x5 fun t64=>
ai (some 6) t64 fun t65=>
al (some false) (some 1) t65 h fun t66 _=>
aQ W R N E P x2 x5 t66 h
def bc:N3:=fun W R N E P x0 x2 x5 h=>
(ba x0=false)/\bK x0 fun t68=>
aC Pg W 17 [x5,(.sc (.int .i64 0)),t68,(.sc (.int .u64 0)),(.sc (.int .u64 0))] h (fun t69 xc=>
a_ W R N E P x2 x5 xc) P
def bt:N3:=fun _ R _ _ _ x2 x3 x4 h=>
R [x2,x3,x4] h
def bD:N2:=fun W R N E P x2 x5 h=>
∃Hd:Nat->Nat,(∀i∈[4,8],h.obj (Hd i)≠none)/\(
cR (some ([.int .i64 0,.int .i64 0,.slice none 0 0],.inl [(0,1),(1,1),(2,1)])) [] fun t71=>
aP x5 fun t72=>
ai (some 4) t72 fun t73=>
al (some false) (some 1) t73 h fun t74 i75=>
(i75=Hd 4)/\(
aP x5 fun t76=>
ai (some 5) t76 fun t77=>
al (some false) (some 1) t77 h fun t78 i79=>
(i79=Hd 8)/\(
aG (some 3) x2 t71 h (h_ W Hd [4,8]) fun w_=>
bt W R N E P x2 t74 t78 w_)))
def bC:N4:=fun W R N E P x0 x2 x5 cW h=>
aH cW (
bD W R N E P x2 x5 h) (
bc W R N E P x0 x2 x5 h)
def bz:N3:=fun W R N E P x0 x2 x5 h=>
(ba x0=false)/\bK x0 fun t81=>
aC Pg W 16 [x5,(.sc (.int .i64 0)),t81,(.sc (.int .i64 0)),(.sc (.int .i64 (-1)))] h (fun t82 Vf=>
im .not t82 fun t84=>
bC W R N E P x0 x2 x5 t84 Vf) P
def bH:N2:=fun W R N E P x0 x2 h=>
cR (some ([.slice none 0 0,.slice none 0 0,.slice none 0 0,.slice none 0 0,.int .i64 0,.int .i64 0,.bool false,.slice none 0 0,.slice none 0 0],.inl [(0,1),(1,1),(2,1),(3,1),(4,1),(5,1),(6,1),(7,1),(8,1)])) [(0,x0)] fun t85=>
eI 9 54 t85 h fun t86 BA=>
bz W R N E P x0 x2 t86 BA
def bO:N1:=fun W R N E P x0 h=>
bw (some [.int .i64 0,.int .i64 0,.slice none 0 0]) 3 27 h fun t88 K5=>
bH W R N E P x0 t88 K5
theorem aM{x0:AV}{h:AH}{M:WK}{R:RK}(hp:bO (fun id=>M id\/h.next<=id) (aJ Pg [.cell 2 27,.tmp 3,.tmp 4] R) (aJ Pg [.cell 2 27,.tmp 3,.tmp 4] R) (fun _ _ _=>False) (fun v h=>R (.cg v) h) x0 h):aE Pg 9 [x0] h M R:=
 fin (n:=75) (pl:=[(3,⟨[(none,[(0,false),(1,false),(2,false),(3,false),(4,true),(5,false),(6,false),(7,false),(8,true),(9,false),(10,false),(11,false)])],true,[],[]⟩),(6,⟨[(none,[(0,false),(1,false),(2,false),(3,false),(4,true),(5,false),(6,false),(7,false),(8,true),(9,false),(10,false),(11,false)])],true,[],[]⟩),(7,⟨[(none,[(0,false),(1,false),(2,false),(3,false),(5,false),(6,false),(7,false),(8,false),(10,false),(11,false),(12,false),(13,false)])],false,[.mk (fr 4 1) [.mk [(9,false),(14,false),(15,false),(16,false)] [],.mk [(15,false),(9,false),(14,false),(16,false)] []],.mk [(15,false),(4,false),(9,false),(14,false),(16,false)] []],[4,9]⟩),(10,⟨[(none,[(0,false),(1,false),(2,false),(3,false),(4,true),(5,false),(6,false),(7,true),(8,false),(9,false),(10,false),(11,false)])],true,[],[]⟩)]) (rs:=[.cell 2 27,.tmp 3,.tmp 4]) (L:=rs) (fun c=>(a1 bO 0 c)) Try.mixed Try.func9 (fun c=>
(sq (a1 bO 0 c)
(sq (a2 bH 0 2 c)
(sn
(sq (a3 bc 0 2 5 c)
(sn
(sn
(sq (a3 n6 2 5 6 c)
(sn
(sl (a2 n1 2 6 c))
(sq (a5 n5 2 5 6 7 8 c)
(cd (a6 n4 2 5 6 7 8 64 c) (sn
(sm (a3 n2 2 3 4 c))
(sm (a4 n3 2 5 7 8 c))) tr))))
(sm (a2 n7 2 5 c)))
(sq (a2 a_ 2 5 c)
(cd (a3 aQ 2 5 33 c) (sn
(sm (a3 n8 2 3 4 c))
(sm (a2 n9 2 5 c))) tr))))
(sq (a3 bz 0 2 5 c)
(cd (a4 bC 0 2 5 16 c) (sn
(sm (a3 bt 2 3 4 c))
(sm (a2 bD 2 5 c))) tr)))))) hp
attribute [simp] n1 n2 n3 n4 n5 n6 n7 n8 n9 aQ a_ bc bt bD bC bz bH bO
end F9
namespace cE
abbrev rs:List Nat:=[10]
def n1:N0:=fun _ R _ _ _ h=>
R [(.sc (.bool true))] h
def n2:N5:=fun _ _ N _ _ x0 x2 x3 x4 aY h=>
N [x0,x2,x3,x4,aY] h
def n3:N7:=fun W R N E P x0 x2 x3 x4 aq aY aL h=>
∃Hd:Nat->Nat,(∀i∈[3],h.obj (Hd i)≠none)/\(
aP x0 fun t1=>
ai (some 3) t1 fun t2=>
al (some false) (some 1) t2 h fun t3 i4=>
(i4=Hd 3)/\(
ah Pg .add 3 true aq (.sc (.int .i64 1)) fun t5=>
aC Pg (h_ W Hd [3]) 31 [x0,t5,aY] h (fun t6 h7=>
br (some (7,none)) t3 aL fun t8=>
ai (some 5) t8 fun t9=>
aG (some 1) t9 t6 h7 W fun pf=>
n2 W R N E P x0 x2 x3 x4 aY pf) P))
def n4:N7:=fun W R N E P x0 x2 x3 x4 aq aY aL h=>
aP x0 fun t11=>
ai (some 3) t11 fun t12=>
al (some false) (some 1) t12 h fun t13 _=>
br (some (7,none)) t13 aL fun t15=>
ai (some 6) t15 fun t16=>
aG (some 1) t16 (.sc (.bool false)) h W fun qK=>
n3 W R N E P x0 x2 x3 x4 aq aY aL qK
def n5:N8:=fun W R N E P x0 x2 x3 x4 aq aY aL Zk h=>
aH Zk (
n4 W R N E P x0 x2 x3 x4 aq aY aL h) (
n2 W R N E P x0 x2 x3 x4 aY h)
def n6:N8:=fun W R N E P x0 x2 x3 x4 aq ax aY aL h=>
ai (some 0) ax fun t18=>
al (some false) (some 1) t18 h fun t19 _=>
ah Pg .eql 9 true t19 (.sc (.string ⟨#[103,97,116,101]⟩)) fun t21=>
n5 W R N E P x0 x2 x3 x4 aq aY aL t21 h
def n7:N0:=fun _ R _ _ _ h=>
R [(.sc (.bool false))] h
def n8:N9:=fun W R N E P x0 x2 x3 x4 aq ax aY aL Zm h=>
aH Zm (
n7 W R N E P h) (
n6 W R N E P x0 x2 x3 x4 aq ax aY aL h)
def n9:km:=fun W R N E P x0 x2 x3 x4 aq ax aY aL rr Me h=>
aV rr Me (.sc (.bool false)) fun t22=>
n8 W R N E P x0 x2 x3 x4 aq ax aY aL t22 h
def aQ:N9:=fun W R N E P x0 x2 x3 x4 aq ax aY aL rr h=>
bF true rr (
ah Pg .add 3 true aq (.sc (.int .i64 1)) fun t23=>
ah Pg .add 3 true x3 (.sc (.int .i64 1)) fun t24=>
aC Pg W 16 [x0,t23,aY,t24,aL] h (fun t25 mS=>
im .not t25 fun t27=>
n9 W R N E P x0 x2 x3 x4 aq ax aY aL rr t27 mS) P) (
n9 W R N E P x0 x2 x3 x4 aq ax aY aL rr aa h)
def a_:N8:=fun W R N E P x0 x2 x3 x4 aq ax aY aL h=>
ai (some 0) ax fun t28=>
al (some false) (some 1) t28 h fun t29 _=>
aC Pg W 28 [t29] h (fun t31 vN=>
aQ W R N E P x0 x2 x3 x4 aq ax aY aL t31 vN) P
def bc:N9:=fun W R N E P x0 x2 x3 x4 aq ax aY aL Mk h=>
aH Mk (
aP x0 fun t33=>
ai (some 3) t33 fun t34=>
al (some false) (some 1) t34 h fun t35 _=>
(ba t35=false)/\bK t35 fun t37=>
ah Pg .sub 3 true t37 (.sc (.int .i64 1)) fun t38=>
a_ W R N E P x0 x2 x3 x4 aq ax aY t38 h) (
a_ W R N E P x0 x2 x3 x4 aq ax aY aL h)
def bt:N8:=fun W R N E P x0 x2 x3 x4 aq ax aY aL h=>
ai (some 0) ax fun t39=>
al (some false) (some 1) t39 h fun t40 _=>
ah Pg .eql 9 true t40 (.sc (.string ⟨#[103,97,116,101]⟩)) fun t42=>
bc W R N E P x0 x2 x3 x4 aq ax aY aL t42 h
def bD:N7:=fun W R N E P x0 x2 x3 x4 aq ax aY h=>
bt W R N E P x0 x2 x3 x4 aq ax aY x4 h
def bC:N6:=fun W R N E P x0 x2 x3 x4 aq ax h=>
ah Pg .add 3 true aq (.sc (.int .i64 1)) fun t43=>
ai (some 4) ax fun t44=>
al (some false) (some 1) t44 h fun t45 _=>
ah Pg .add 3 false t43 t45 fun t47=>
bD W R N E P x0 x2 x3 x4 aq ax t47 h
def bz:N0:=fun _ R _ _ _ h=>
R [(.sc (.bool false))] h
def bH:N7:=fun W R N E P x0 x2 x3 x4 aq ax Ml h=>
aH Ml (
bz W R N E P h) (
bC W R N E P x0 x2 x3 x4 aq ax h)
def bO:N6:=fun W R N E P x0 x2 x3 x4 aq ax h=>
aC Pg W 30 [x0,aq,x4] h (fun t48 yU=>
im .not t48 fun t50=>
bH W R N E P x0 x2 x3 x4 aq ax t50 yU) P
def bQ:N2:=fun W R _ _ P x0 aq h=>
aC Pg W 29 [x0,aq,(.sc (.int .i64 100))] h (fun t51 pe=>
R [t51] pe) P
def b_:N7:=fun W R N E P x0 x2 x3 x4 aq ax Js h=>
aH Js (
bQ W R N E P x0 aq h) (
bO W R N E P x0 x2 x3 x4 aq ax h)
def cp:N8:=fun W R N E P x0 x2 x3 x4 aq ax ly v7 h=>
aV ly (.sc (.bool true)) v7 fun t53=>
b_ W R N E P x0 x2 x3 x4 aq ax t53 h
def bW:N9:=fun W R N E P x0 x2 x3 x4 aq ax ly Ea SR h=>
bF false ly (
aV Ea SR (.sc (.bool false)) fun t54=>
cp W R N E P x0 x2 x3 x4 aq ax ly t54 h) (
cp W R N E P x0 x2 x3 x4 aq ax ly aa h)
def cb:N8:=fun W R N E P x0 x2 x3 x4 aq ax ly Ea h=>
bF true Ea (
ai (some 0) ax fun t55=>
al (some false) (some 1) t55 h fun t56 _=>
ah Pg .neq 9 true t56 (.sc (.string ⟨#[114,101,112,101,97,116]⟩)) fun t58=>
bW W R N E P x0 x2 x3 x4 aq ax ly Ea t58 h) (
bW W R N E P x0 x2 x3 x4 aq ax ly Ea aa h)
def cn:N9:=fun W R N E P x0 x2 x3 x4 aq ax ly tG x88 h=>
bF false ly (
aV tG x88 (.sc (.bool false)) fun t59=>
cb W R N E P x0 x2 x3 x4 aq ax ly t59 h) (
cb W R N E P x0 x2 x3 x4 aq ax ly aa h)
def cj:N8:=fun W R N E P x0 x2 x3 x4 aq ax ly tG h=>
bF true tG (
ai (some 0) ax fun t60=>
al (some false) (some 1) t60 h fun t61 _=>
ah Pg .neq 9 true t61 (.sc (.string ⟨#[117,115,101]⟩)) fun t63=>
cn W R N E P x0 x2 x3 x4 aq ax ly tG t63 h) (
cn W R N E P x0 x2 x3 x4 aq ax ly tG aa h)
def cl:N7:=fun W R N E P x0 x2 x3 x4 aq ax ly h=>
bF false ly (
ah Pg .geq 3 true x4 (.sc (.int .i64 0)) fun t64=>
cj W R N E P x0 x2 x3 x4 aq ax ly t64 h) (
cj W R N E P x0 x2 x3 x4 aq ax ly aa h)
def bV:N8:=fun W R N E P x0 x2 x3 x4 aq ax nK mO h=>
aV nK mO (.sc (.bool false)) fun t65=>
cl W R N E P x0 x2 x3 x4 aq ax t65 h
def cy:N8:=fun W R N E P x0 x2 x3 x4 aq ax bg nK h=>
bF true nK (
bV W R N E P x0 x2 x3 x4 aq ax nK bg h) (
bV W R N E P x0 x2 x3 x4 aq ax nK aa h)
def cz:N7:=fun W R N E P x0 x2 x3 x4 aq ax bg h=>
ah Pg .gtr 3 true x3 (.sc (.int .i64 0)) fun t66=>
cy W R N E P x0 x2 x3 x4 aq ax bg t66 h
def cK:N8:=fun W R N E P x0 x2 x3 x4 aq ax rq x75 h=>
aV rq (.sc (.bool true)) x75 fun t67=>
cz W R N E P x0 x2 x3 x4 aq ax t67 h
def da:N7:=fun W R N E P x0 x2 x3 x4 aq ax rq h=>
bF false rq (
ai (some 0) ax fun t68=>
al (some false) (some 1) t68 h fun t69 _=>
ah Pg .eql 9 true t69 (.sc (.string ⟨#[103,97,116,101]⟩)) fun t71=>
cK W R N E P x0 x2 x3 x4 aq ax rq t71 h) (
cK W R N E P x0 x2 x3 x4 aq ax rq aa h)
def cT:N8:=fun W R N E P x0 x2 x3 x4 aq ax gv v_ h=>
aV gv (.sc (.bool true)) v_ fun t72=>
da W R N E P x0 x2 x3 x4 aq ax t72 h
def dx:N7:=fun W R N E P x0 x2 x3 x4 aq ax gv h=>
bF false gv (
ai (some 0) ax fun t73=>
al (some false) (some 1) t73 h fun t74 _=>
ah Pg .eql 9 true t74 (.sc (.string ⟨#[98,105,116,115]⟩)) fun t76=>
cT W R N E P x0 x2 x3 x4 aq ax gv t76 h) (
cT W R N E P x0 x2 x3 x4 aq ax gv aa h)
def dW:N6:=fun W R N E P x0 x2 x3 x4 aq ax h=>
ai (some 0) ax fun t77=>
al (some false) (some 1) t77 h fun t78 _=>
ah Pg .eql 9 true t78 (.sc (.string ⟨#[113,117,98,105,116,115]⟩)) fun t80=>
dx W R N E P x0 x2 x3 x4 aq ax t80 h
def dT:N2:=fun W R _ _ P x0 aq h=>
aC Pg W 29 [x0,aq,(.sc (.int .i64 102))] h (fun t81 w9=>
R [t81] w9) P
def dV:N7:=fun W R N E P x0 x2 x3 x4 aq ax tI h=>
aH tI (
dT W R N E P x0 aq h) (
dW W R N E P x0 x2 x3 x4 aq ax h)
def ed:N6:=fun W R N E P x0 x2 x3 x4 aq ax h=>
ah Pg .gtr 3 true x3 (.sc (.int .i64 32)) fun t83=>
dV W R N E P x0 x2 x3 x4 aq ax t83 h
def eJ:N2:=fun W R _ _ P x0 aq h=>
aC Pg W 29 [x0,aq,(.sc (.int .i64 100))] h (fun t84 rP=>
R [t84] rP) P
def dF:N7:=fun W R N E P x0 x2 x3 x4 aq ax iI h=>
aH iI (
eJ W R N E P x0 aq h) (
ed W R N E P x0 x2 x3 x4 aq ax h)
def d_:N8:=fun W R N E P x0 x2 x3 x4 aq ax jI so h=>
aV jI (.sc (.bool true)) so fun t86=>
dF W R N E P x0 x2 x3 x4 aq ax t86 h
def dL:N7:=fun W R N E P x0 x2 x3 x4 aq ax jI h=>
bF false jI (
ai (some 4) ax fun t87=>
al (some false) (some 1) t87 h fun t88 _=>
ah Pg .sub 3 false x2 aq fun t90=>
ah Pg .sub 3 true t90 (.sc (.int .i64 1)) fun t91=>
ah Pg .gtr 3 false t88 t91 fun t92=>
d_ W R N E P x0 x2 x3 x4 aq ax jI t92 h) (
d_ W R N E P x0 x2 x3 x4 aq ax jI aa h)
def eC:N8:=fun W R N E P x0 x2 x3 x4 aq ax mY gL h=>
aV mY (.sc (.bool true)) gL fun t93=>
dL W R N E P x0 x2 x3 x4 aq ax t93 h
def eu:N7:=fun W R N E P x0 x2 x3 x4 aq ax mY h=>
bF false mY (
ai (some 4) ax fun t94=>
al (some false) (some 1) t94 h fun t95 _=>
ah Pg .lss 3 true t95 (.sc (.int .i64 0)) fun t97=>
eC W R N E P x0 x2 x3 x4 aq ax mY t97 h) (
eC W R N E P x0 x2 x3 x4 aq ax mY aa h)
def dO:N8:=fun W R N E P x0 x2 x3 x4 aq ax gX Ee h=>
aV gX (.sc (.bool true)) Ee fun t98=>
eu W R N E P x0 x2 x3 x4 aq ax t98 h
def e_:N9:=fun W R N E P x0 x2 x3 x4 aq ax gX kA wh h=>
bF false gX (
aV kA wh (.sc (.bool false)) fun t99=>
dO W R N E P x0 x2 x3 x4 aq ax gX t99 h) (
dO W R N E P x0 x2 x3 x4 aq ax gX aa h)
def fg:N8:=fun W R N E P x0 x2 x3 x4 aq ax gX kA h=>
bF true kA (
ai (some 4) ax fun t100=>
al (some false) (some 1) t100 h fun t101 _=>
ah Pg .neq 3 true t101 (.sc (.int .i64 0)) fun t103=>
e_ W R N E P x0 x2 x3 x4 aq ax gX kA t103 h) (
e_ W R N E P x0 x2 x3 x4 aq ax gX kA aa h)
def hG:N7:=fun W R N E P x0 x2 x3 x4 aq ax gX h=>
bF false gX (
ai (some 0) ax fun t104=>
al (some false) (some 1) t104 h fun t105 _=>
aC Pg W 28 [t105] h (fun t107 uR=>
im .not t107 fun t109=>
fg W R N E P x0 x2 x3 x4 aq ax gX t109 uR) P) (
fg W R N E P x0 x2 x3 x4 aq ax gX aa h)
def gg:N6:=fun W R N E P x0 x2 x3 x4 aq ax h=>
ai (some 0) ax fun t110=>
al (some false) (some 1) t110 h fun t111 _=>
aC Pg W 27 [t111] h (fun t113 FL=>
im .not t113 fun t115=>
hG W R N E P x0 x2 x3 x4 aq ax t115 FL) P
def fq:N5:=fun W R N E P x0 x2 x3 x4 aq h=>
aP x0 fun t116=>
ai (some 0) t116 fun t117=>
al (some false) (some 1) t117 h fun t118 _=>
br (some (6,none)) t118 aq fun t120=>
al (some true) (some 6) t120 h fun t121 _=>
bw (some [.string ⟨#[]⟩,.string ⟨#[]⟩,.slice none 0 0,.int .i64 0,.int .i64 0,.int .i64 0]) 6 42 h fun t123 FK=>
aG (some 6) t123 t121 FK W fun abH=>
gg W R N E P x0 x2 x3 x4 aq t123 abH
def iu:N6:=fun W R N E P x0 x2 x3 x4 aq dt h=>
aH dt (
fq W R N E P x0 x2 x3 x4 aq h) (
E 0 [] h)
def jD:N5:=fun W R N E P x0 x2 x3 x4 aq h=>
ah Pg .lss 3 false aq x2 fun t126=>
iu W R N E P x0 x2 x3 x4 aq t126 h
def cB:GK:=fun W R N E P N' vs h=>jD W R N' (fun(i:Nat) (vs:List AV) (h:AH)=>if i=0 then n1 W R N E P h else E i vs h) P (vs.getD 0 aa) (vs.getD 1 aa) (vs.getD 2 aa) (vs.getD 3 aa) (vs.getD 4 aa) h
def jC:N5:=fun W R N E P x0 x2 x3 x4 aq h=>
cY (cB W R N E P) [x0,x2,x3,x4,aq] h
def ir:N5:=fun W R N E P x0 x1 x2 x3 x4 h=>
jC W R N E P x0 x2 x3 x4 x1 h
def kO:N5:=fun W R N E P x0 x1 x2 x3 x4 h=>
ir W R N E P x0 x1 x2 x3 x4 h
theorem aM{x0 x1 x2 x3 x4:AV}{h:AH}{M:WK}{R:RK}(hp:kO (fun id=>M id\/h.next<=id) (aJ Pg [.tmp 10] R) (aJ Pg [.tmp 10] R) (fun _ _ _=>False) (fun v h=>R (.cg v) h) x0 x1 x2 x3 x4 h):aE Pg 16 [x0,x1,x2,x3,x4] h M R:=
 fin (n:=156) (pl:=[(4,⟨[(none,(fr 0 5)),(some (4,false),(fr 5 5)),(some (9,true),(fr 10 3)),(some (4,false),(fr 13 1)),(none,(fr 14 2)),(some (15,false),(fr 16 3)),(none,(fr 19 2)),(some (20,false),(fr 21 7)),(none,(fr 28 1))],false,[],[]⟩),(8,⟨[(none,(fr 0 4)),(some (3,false),(fr 4 3)),(none,(fr 7 2)),(some (8,false),(fr 9 3)),(none,(fr 12 2))],false,[],[]⟩),(9,⟨[(none,(fr 0 3)),(some (2,true),(fr 3 1)),(none,(fr 4 2)),(some (5,false),(fr 6 3)),(some (8,true),(fr 9 3)),(some (5,false),(fr 12 2)),(some (13,true),(fr 14 3)),(some (5,false),(fr 17 1)),(none,(fr 18 1))],false,[],[]⟩),(17,⟨[(none,(fr 0 4)),(some (3,true),(fr 4 9)),(none,(fr 13 1))],false,[],[]⟩),(21,⟨[(none,[(0,false),(1,false),(2,false),(3,true),(4,false),(5,false),(6,false),(7,false),(8,false),(9,false),(10,false),(11,false),(12,false)])],true,[],[]⟩)]) (rs:=[.tmp 10]) (L:=rs) (fun c=>(a5 kO 0 1 2 3 4 c)) Try.mixed Try.func16 (fun c=>
(sq (a5 kO 0 1 2 3 4 c)
(sn
(sl (a0 n1 c))
(sq (a5 ir 0 1 2 3 4 c)
(bk 0 (lp [0,2,3,4,11] rs [(0,[])] (a5 jC 0 2 3 4 11 c) cB (fun i vs h=>if i=0 then n1 c.W c.R c.N c.E c.P h else c.E i vs h) (.b (.t .o)) fun c=>
(sn
(bk 1 (sq (a5 fq 0 2 3 4 11 c)
(sn
(sn
(sn
(sn
(sn
(sq (a6 bC 0 2 3 4 11 12 c)
(sq (a7 bD 0 2 3 4 11 12 14 c)
(sn
(sn
(sn
(sm (a5 n2 0 2 3 4 14 c))
(sq (a8 n6 0 2 3 4 11 12 14 15 c)
(cd (a8 n5 0 2 3 4 11 14 15 135 c) (sq (a7 n4 0 2 3 4 11 14 15 c)
(sm (a7 n3 0 2 3 4 11 14 15 c))) tr)))
(sn
(cd (a9 n8 0 2 3 4 11 12 14 15 132 c) (sl (a0 n7 c)) tr)
(gr (gn (a8 a_ 0 2 3 4 11 12 14 15 c) (gx (a9 aQ 0 2 3 4 11 12 14 15 122 c) (gl (kE n9 0 2 3 4 11 12 14 15 122 131 c)))))))
(sq (a8 bt 0 2 3 4 11 12 14 15 c)
(cd (a9 bc 0 2 3 4 11 12 14 15 112 c) tr tr)))))
(sq (a6 bO 0 2 3 4 11 12 c)
(cd (a7 bH 0 2 3 4 11 12 103 c) (sl (a0 bz c)) tr)))
(sn
(cd (a7 b_ 0 2 3 4 11 12 95 c) (sl (a2 bQ 0 11 c)) tr)
(gr (gn (a7 cz 0 2 3 4 11 12 13 c) (gx (a8 cy 0 2 3 4 11 12 13 79 c) (gn (a8 bV 0 2 3 4 11 12 79 80 c) (gx (a7 cl 0 2 3 4 11 12 82 c) (gx (a8 cj 0 2 3 4 11 12 82 85 c) (gx (a9 cn 0 2 3 4 11 12 82 85 88 c) (gx (a8 cb 0 2 3 4 11 12 82 90 c) (gx (a9 bW 0 2 3 4 11 12 82 90 93 c) (gl (a8 cp 0 2 3 4 11 12 82 94 c)))))))))))))
(gr (gn (a6 dW 0 2 3 4 11 12 c) (gx (a7 dx 0 2 3 4 11 12 67 c) (gn (a8 cT 0 2 3 4 11 12 67 70 c) (gx (a7 da 0 2 3 4 11 12 72 c) (gl (a8 cK 0 2 3 4 11 12 72 75 c))))))))
(sq (a6 ed 0 2 3 4 11 12 c)
(cd (a7 dV 0 2 3 4 11 12 60 c) (sl (a2 dT 0 11 c)) tr)))
(sn
(cd (a7 dF 0 2 3 4 11 12 55 c) (sl (a2 eJ 0 11 c)) tr)
(gr (gn (a6 gg 0 2 3 4 11 12 c) (gx (a7 hG 0 2 3 4 11 12 31 c) (gx (a8 fg 0 2 3 4 11 12 31 36 c) (gx (a9 e_ 0 2 3 4 11 12 31 36 39 c) (gn (a8 dO 0 2 3 4 11 12 31 40 c) (gx (a7 eu 0 2 3 4 11 12 42 c) (gn (a8 eC 0 2 3 4 11 12 42 45 c) (gx (a7 dL 0 2 3 4 11 12 47 c) (gl (a8 d_ 0 2 3 4 11 12 47 54 c)))))))))))))))
(sq (a5 jD 0 2 3 4 11 c)
(cd (a6 iu 0 2 3 4 11 19 c) tr tr))))))))) hp
attribute [simp] n1 n2 n3 n4 n5 n6 n7 n8 n9 aQ a_ bc bt bD bC bz bH bO bQ b_ cp bW cb cn cj cl bV cy cz cK da cT dx dW dT dV ed eJ dF d_ dL eC eu dO e_ fg hG gg fq iu jD ir kO
end cE
namespace ur
abbrev rs:List Nat:=[2]
def n1:N1:=fun _ R _ _ _ x3 h=>
R [x3] h
def n2:N3:=fun _ _ N _ _ x0 x3 x4 h=>
ah Pg .add 3 true x4 (.sc (.int .i64 1)) fun t1=>
N [x0,x3,t1] h
def n3:N3:=fun W R N E P x0 x3 x4 h=>
br (some (3,none)) x0 x4 fun t2=>
ai (some 2) t2 fun t3=>
al (some false) (some 1) t3 h fun t4 _=>
ah Pg .add 3 false x3 t4 fun t6=>
n2 W R N E P x0 t6 x4 h
def n4:N4:=fun W R N E P x0 x3 x4 x8 h=>
aH x8 (
n3 W R N E P x0 x3 x4 h) (
E 0 [x3] h)
def n5:N3:=fun W R N E P x0 x3 x4 h=>
(ba x0=false)/\bK x0 fun t7=>
ah Pg .lss 3 false x4 t7 fun t8=>
n4 W R N E P x0 x3 x4 t8 h
def cB:GK:=fun W R N E P N' vs h=>n5 W R N' (fun(i:Nat) (vs:List AV) (h:AH)=>if i=0 then n1 W R N E P (vs.getD 0 aa) h else E i vs h) P (vs.getD 0 aa) (vs.getD 1 aa) (vs.getD 2 aa) h
def n6:N3:=fun W R N E P x0 x3 x4 h=>
cY (cB W R N E P) [x0,x3,x4] h
def n7:N2:=fun W R N E P x0 x3 h=>
n6 W R N E P x0 x3 (.sc (.int .i64 0)) h
def n8:N1:=fun W R N E P x0 h=>
n7 W R N E P x0 (.sc (.int .i64 0)) h
def n9:N1:=fun W R N E P x0 h=>
n8 W R N E P x0 h
theorem aM{x0:AV}{h:AH}{M:WK}{R:RK}(hp:n9 (fun id=>M id\/h.next<=id) (aJ Pg [.tmp 2] R) (aJ Pg [.tmp 2] R) (fun _ _ _=>False) (fun v h=>R (.cg v) h) x0 h):aE Pg 18 [x0] h M R:=
 fin (n:=19) (pl:=[]) (rs:=[.tmp 2]) (L:=rs) (fun c=>(a1 n9 0 c)) Try.mixed Try.func18 (fun c=>
(sq (a1 n9 0 c)
(sq (a1 n8 0 c)
(sn
(sl (a1 n1 3 c))
(sq (a2 n7 0 3 c)
(bk 0 (lp [0,3,4] rs [(0,[3])] (a3 n6 0 3 4 c) cB (fun i vs h=>if i=0 then n1 c.W c.R c.N c.E c.P (vs.getD 0 aa) h else c.E i vs h) (.b (.t .o)) fun c=>
(sn
(sn
(sm (a3 n2 0 3 4 c))
(bk 1 (sm (a3 n3 0 3 4 c))))
(sq (a3 n5 0 3 4 c)
(cd (a4 n4 0 3 4 8 c) tr tr)))))))))) hp
attribute [simp] n1 n2 n3 n4 n5 n7 n8 n9
end ur
namespace YY
abbrev rs:List Nat:=[2]
def n1:N0:=fun _ R _ _ _ h=>
R [(.sc (.bool false))] h
def n2:N0:=fun _ R _ _ _ h=>
R [(.sc (.bool true))] h
def n3:N1:=fun W R N E P x4 h=>
aH x4 (
n2 W R N E P h) (
n1 W R N E P h)
def n4:N2:=fun W R N E P x3 x4 h=>
aH x4 (
n3 W R N E P x4 h) (
ah Pg .eql 9 true x3 (.sc (.string ⟨#[114,101,115,101,116]⟩)) fun t1=>
n3 W R N E P t1 h)
def n5:N1:=fun W R N E P x3 h=>
ah Pg .eql 9 true x3 (.sc (.string ⟨#[109,101,97,115,117,114,101]⟩)) fun t2=>
n4 W R N E P x3 t2 h
def n6:N2:=fun W R N E P x3 x4 h=>
aH x4 (
n3 W R N E P x4 h) (
n5 W R N E P x3 h)
def n7:N1:=fun W R N E P x3 h=>
ah Pg .eql 9 true x3 (.sc (.string ⟨#[117,115,101]⟩)) fun t3=>
n6 W R N E P x3 t3 h
def n8:N2:=fun W R N E P x3 x4 h=>
aH x4 (
n3 W R N E P x4 h) (
n7 W R N E P x3 h)
def n9:N1:=fun W R N E P x3 h=>
ah Pg .eql 9 true x3 (.sc (.string ⟨#[105,102]⟩)) fun t4=>
n8 W R N E P x3 t4 h
def aQ:N2:=fun W R N E P x3 x4 h=>
aH x4 (
n3 W R N E P x4 h) (
n9 W R N E P x3 h)
def a_:N1:=fun W R N E P x3 h=>
ah Pg .eql 9 true x3 (.sc (.string ⟨#[114,101,112,101,97,116]⟩)) fun t5=>
aQ W R N E P x3 t5 h
def bc:N2:=fun W R N E P x3 x4 h=>
aH x4 (
n3 W R N E P x4 h) (
a_ W R N E P x3 h)
def bt:N1:=fun W R N E P x3 h=>
ah Pg .eql 9 true x3 (.sc (.string ⟨#[103,97,116,101]⟩)) fun t6=>
bc W R N E P x3 t6 h
def bD:N2:=fun W R N E P x3 x4 h=>
aH x4 (
n3 W R N E P x4 h) (
bt W R N E P x3 h)
def bC:N1:=fun W R N E P x3 h=>
ah Pg .eql 9 true x3 (.sc (.string ⟨#[98,105,116,115]⟩)) fun t7=>
bD W R N E P x3 t7 h
def bz:N2:=fun W R N E P x3 x4 h=>
aH x4 (
n3 W R N E P x4 h) (
bC W R N E P x3 h)
def bH:N1:=fun W R N E P x3 h=>
ah Pg .eql 9 true x3 (.sc (.string ⟨#[113,117,98,105,116,115]⟩)) fun t8=>
bz W R N E P x3 t8 h
def bO:N1:=fun W R N E P x0 h=>
bH W R N E P x0 h
def bQ:N1:=fun W R N E P x0 h=>
bO W R N E P x0 h
theorem aM{x0:AV}{h:AH}{M:WK}{R:RK}(hp:bQ (fun id=>M id\/h.next<=id) (aJ Pg [.tmp 2] R) (aJ Pg [.tmp 2] R) (fun _ _ _=>False) (fun v h=>R (.cg v) h) x0 h):aE Pg 27 [x0] h M R:=
 fin (n:=13) (pl:=[]) (rs:=[.tmp 2]) (L:=rs) (fun c=>(a1 bQ 0 c)) Try.mixed Try.func27 (fun c=>
(sq (a1 bQ 0 c)
(sn
(sl (a0 n1 c))
(sq (a1 bO 0 c)
(bk 0 (sn
(cd (a1 n3 4 c) (sl (a0 n2 c)) tr)
(sq (a1 bH 3 c)
(cd (a2 bz 3 4 c) tr (sq (a1 bC 3 c)
(cd (a2 bD 3 4 c) tr (sq (a1 bt 3 c)
(cd (a2 bc 3 4 c) tr (sq (a1 a_ 3 c)
(cd (a2 aQ 3 4 c) tr (sq (a1 n9 3 c)
(cd (a2 n8 3 4 c) tr (sq (a1 n7 3 c)
(cd (a2 n6 3 4 c) tr (sq (a1 n5 3 c)
(cd (a2 n4 3 4 c) tr tr)))))))))))))))))))) hp
attribute [simp] n1 n2 n3 n4 n5 n6 n7 n8 n9 aQ a_ bc bt bD bC bz bH bO bQ
end YY
namespace YX
abbrev rs:List Nat:=[2]
def n1:N1:=fun _ R _ _ _ x2 h=>
R [x2] h
def n2:N2:=fun W R N E P x9 aq h=>
aV x9 (.sc (.bool true)) aq fun t1=>
n1 W R N E P t1 h
def n3:N2:=fun W R N E P x0 x9 h=>
bF false x9 (
ah Pg .eql 9 true x0 (.sc (.string ⟨#[105,102]⟩)) fun t2=>
n2 W R N E P x9 t2 h) (
n2 W R N E P x9 aa h)
def n4:N3:=fun W R N E P x0 x5 x7 h=>
aV x5 (.sc (.bool true)) x7 fun t3=>
n3 W R N E P x0 t3 h
def n5:N2:=fun W R N E P x0 x5 h=>
bF false x5 (
ah Pg .eql 9 true x0 (.sc (.string ⟨#[114,101,112,101,97,116]⟩)) fun t4=>
n4 W R N E P x0 x5 t4 h) (
n4 W R N E P x0 x5 aa h)
def n6:N1:=fun W R N E P x0 h=>
ah Pg .eql 9 true x0 (.sc (.string ⟨#[103,97,116,101]⟩)) fun t5=>
n5 W R N E P x0 t5 h
def n7:N1:=fun W R N E P x0 h=>
n6 W R N E P x0 h
theorem aM{x0:AV}{h:AH}{M:WK}{R:RK}(hp:n7 (fun id=>M id\/h.next<=id) (aJ Pg [.tmp 2] R) (aJ Pg [.tmp 2] R) (fun _ _ _=>False) (fun v h=>R (.cg v) h) x0 h):aE Pg 28 [x0] h M R:=
 fin (n:=13) (pl:=[(1,⟨[(none,(fr 0 3)),(some (2,false),(fr 3 2)),(none,(fr 5 2)),(some (6,false),(fr 7 2)),(none,(fr 9 2))],false,[],[]⟩)]) (rs:=[.tmp 2]) (L:=rs) (fun c=>(a1 n7 0 c)) Try.mixed Try.func28 (fun c=>
(sq (a1 n7 0 c)
(sn
(sm (a1 n1 2 c))
(gr (gn (a1 n6 0 c) (gx (a2 n5 0 5 c) (gn (a3 n4 0 5 7 c) (gx (a2 n3 0 9 c) (gl (a2 n2 9 11 c)))))))))) hp
attribute [simp] n1 n2 n3 n4 n5 n6 n7
end YX
namespace LX
abbrev rs:List Nat:=[6]
def n1:N0:=fun _ R _ _ _ h=>
R [(.sc (.bool false))] h
def n2:N3:=fun W R N E P x0 x1 x2 h=>
aP x0 fun t1=>
ai (some 0) t1 fun t2=>
al (some false) (some 1) t2 h fun t3 _=>
br (some (6,none)) t3 x1 fun t5=>
ai (some 5) t5 fun t6=>
al (some false) (some 1) t6 h fun t7 _=>
aP x0 fun t9=>
ai (some 4) t9 fun t10=>
aG (some 1) t10 t7 h W fun nU=>
aP x0 fun t12=>
ai (some 5) t12 fun t13=>
aG (some 1) t13 x2 nU W fun yZ=>
n1 W R N E P yZ
def n3:N3:=fun W R N E P x0 x1 x2 h=>
n2 W R N E P x0 x1 x2 h
theorem aM{x0 x1 x2:AV}{h:AH}{M:WK}{R:RK}(hp:n3 (fun id=>M id\/h.next<=id) (aJ Pg [.tmp 6] R) (aJ Pg [.tmp 6] R) (fun _ _ _=>False) (fun v h=>R (.cg v) h) x0 x1 x2 h):aE Pg 29 [x0,x1,x2] h M R:=
 fin (n:=22) (pl:=[]) (rs:=[.tmp 6]) (L:=rs) (fun c=>(a3 n3 0 1 2 c)) Try.mixed Try.func29 (fun c=>
(sq (a3 n3 0 1 2 c)
(sq (a3 n2 0 1 2 c)
(sl (a0 n1 c))))) hp
attribute [simp] n1 n2 n3
end LX
namespace c9
abbrev rs:List Nat:=[6]
def n1:N0:=fun _ R _ _ _ h=>
R [(.sc (.bool true))] h
def n2:N2:=fun W R _ _ P x0 x1 h=>
aC Pg W 50 [x0,x1] h (fun t1 h2=>
R [t1] h2) P
def n3:N2:=fun W R _ _ P x0 x1 h=>
aC Pg W 29 [x0,x1,(.sc (.int .i64 112))] h (fun t3 h4=>
R [t3] h4) P
def n4:N3:=fun W R N E P x0 x1 pS h=>
aH pS (
n3 W R N E P x0 x1 h) (
n1 W R N E P h)
def n5:N3:=fun W R N E P x0 x1 x7 h=>
ai (some 3) x7 fun t5=>
al (some false) (some 1) t5 h fun t6 _=>
ah Pg .lss 3 true t6 (.sc (.int .i64 0)) fun t8=>
n4 W R N E P x0 x1 t8 h
def n6:N2:=fun W R _ _ P x0 x1 h=>
aC Pg W 29 [x0,x1,(.sc (.int .i64 112))] h (fun t9 pf=>
R [t9] pf) P
def n7:N3:=fun W R N E P x0 x1 SY h=>
aH SY (
n6 W R N E P x0 x1 h) (
n1 W R N E P h)
def n8:N4:=fun W R N E P x0 x1 jZ tH h=>
aV jZ (.sc (.bool true)) tH fun t11=>
n7 W R N E P x0 x1 t11 h
def n9:N5:=fun W R N E P x0 x1 jZ tI rq h=>
bF false jZ (
aV tI rq (.sc (.bool false)) fun t12=>
n8 W R N E P x0 x1 jZ t12 h) (
n8 W R N E P x0 x1 jZ aa h)
def aQ:N6:=fun W R N E P x0 x1 x7 x8 jZ tI h=>
bF true tI (
ai (some 3) x7 fun t13=>
al (some false) (some 1) t13 h fun t14 _=>
aP x0 fun t16=>
ai (some 2) t16 fun t17=>
al (some false) (some 1) t17 h fun t18 _=>
br (some (3,none)) t18 x8 fun t20=>
ai (some 2) t20 fun t21=>
al (some false) (some 1) t21 h fun t22 _=>
ah Pg .shl 3 true (.sc (.int .i64 1)) t22 fun t24=>
ah Pg .geq 3 false t14 t24 fun t25=>
n9 W R N E P x0 x1 jZ tI t25 h) (
n9 W R N E P x0 x1 jZ tI aa h)
def a_:N5:=fun W R N E P x0 x1 x7 x8 jZ h=>
bF false jZ (
aP x0 fun t26=>
ai (some 2) t26 fun t27=>
al (some false) (some 1) t27 h fun t28 _=>
br (some (3,none)) t28 x8 fun t30=>
ai (some 2) t30 fun t31=>
al (some false) (some 1) t31 h fun t32 _=>
ah Pg .lss 3 true t32 (.sc (.int .i64 63)) fun t34=>
aQ W R N E P x0 x1 x7 x8 jZ t34 h) (
aQ W R N E P x0 x1 x7 x8 jZ aa h)
def bc:N4:=fun W R N E P x0 x1 x7 x8 h=>
ai (some 3) x7 fun t35=>
al (some false) (some 1) t35 h fun t36 _=>
ah Pg .lss 3 true t36 (.sc (.int .i64 0)) fun t38=>
a_ W R N E P x0 x1 x7 x8 t38 h
def bt:N2:=fun W R _ _ P x0 x1 h=>
aC Pg W 29 [x0,x1,(.sc (.int .i64 110))] h (fun t39 Dv=>
R [t39] Dv) P
def bD:N5:=fun W R N E P x0 x1 x7 x8 mP h=>
aH mP (
bt W R N E P x0 x1 h) (
bc W R N E P x0 x1 x7 x8 h)
def bC:N4:=fun W R N E P x0 x1 x7 x8 h=>
ah Pg .lss 3 true x8 (.sc (.int .i64 0)) fun t41=>
bD W R N E P x0 x1 x7 x8 t41 h
def bz:N3:=fun W R N E P x0 x1 x7 h=>
aP x0 fun t42=>
ai (some 2) t42 fun t43=>
al (some false) (some 1) t43 h fun t44 _=>
ai (some 1) x7 fun t46=>
al (some false) (some 1) t46 h fun t47 _=>
aC Pg oY 35 [t44,t47] h (fun t49 sT=>
bC W R N E P x0 x1 x7 t49 sT) P
def bH:N3:=fun W R _ _ P x0 x1 x2 h=>
aC Pg W 51 [x0,x1,x2] h (fun t51 pe=>
R [t51] pe) P
def bO:N1:=fun _ R _ _ _ x6 h=>
R [x6] h
def bQ:N2:=fun W R N E P uu kK h=>
aV uu kK (.sc (.bool false)) fun t53=>
bO W R N E P t53 h
def b_:N4:=fun W R N E P x0 x1 x7 uu h=>
bF true uu (
ai (some 2) x7 fun t54=>
al (some false) (some 1) t54 h fun t55 _=>
br (some (2,none)) t55 (.sc (.int .i64 1)) fun t57=>
al (some true) (some 2) t57 h fun t58 _=>
aP x0 fun t60=>
ai (some 2) t60 fun t61=>
al (some false) (some 1) t61 h fun t62 _=>
aC Pg W 52 [x0,x1,t58,t62] h (fun t64 FG=>
bQ W R N E P uu t64 FG) P) (
bQ W R N E P uu aa h)
def cp:N3:=fun W R N E P x0 x1 x7 h=>
ai (some 2) x7 fun t66=>
al (some false) (some 1) t66 h fun t67 _=>
br (some (2,none)) t67 (.sc (.int .i64 0)) fun t69=>
al (some true) (some 2) t69 h fun t70 _=>
aP x0 fun t72=>
ai (some 1) t72 fun t73=>
al (some false) (some 1) t73 h fun t74 _=>
aC Pg W 52 [x0,x1,t70,t74] h (fun t76 Vh=>
b_ W R N E P x0 x1 x7 t76 Vh) P
def bW:N2:=fun W R _ _ P x0 x1 h=>
aC Pg W 29 [x0,x1,(.sc (.int .i64 111))] h (fun t78 Vg=>
R [t78] Vg) P
def cb:N4:=fun W R N E P x0 x1 x7 rp h=>
aH rp (
bW W R N E P x0 x1 h) (
cp W R N E P x0 x1 x7 h)
def cn:N3:=fun W R N E P x0 x1 x7 h=>
ai (some 2) x7 fun t80=>
al (some false) (some 1) t80 h fun t81 _=>
(ba t81=false)/\bK t81 fun t83=>
ah Pg .neq 3 true t83 (.sc (.int .i64 2)) fun t84=>
cb W R N E P x0 x1 x7 t84 h
def cj:N3:=fun W R _ _ P x0 x1 x7 h=>
ai (some 2) x7 fun t85=>
al (some false) (some 1) t85 h fun t86 _=>
br (some (2,none)) t86 (.sc (.int .i64 0)) fun t88=>
al (some true) (some 2) t88 h fun t89 _=>
aP x0 fun t91=>
ai (some 1) t91 fun t92=>
al (some false) (some 1) t92 h fun t93 _=>
aC Pg W 52 [x0,x1,t89,t93] h (fun t95 Fy=>
R [t95] Fy) P
def cl:N2:=fun W R _ _ P x0 x1 h=>
aC Pg W 29 [x0,x1,(.sc (.int .i64 111))] h (fun t97 Fx=>
R [t97] Fx) P
def bV:N4:=fun W R N E P x0 x1 x7 rr h=>
aH rr (
cl W R N E P x0 x1 h) (
cj W R N E P x0 x1 x7 h)
def cy:N3:=fun W R N E P x0 x1 x7 h=>
ai (some 2) x7 fun t99=>
al (some false) (some 1) t99 h fun t100 _=>
(ba t100=false)/\bK t100 fun t102=>
ah Pg .neq 3 true t102 (.sc (.int .i64 1)) fun t103=>
bV W R N E P x0 x1 x7 t103 h
def cz:N4:=fun W R N E P x0 x1 x7 Mj h=>
aH Mj (
cy W R N E P x0 x1 x7 h) (
n1 W R N E P h)
def cK:N4:=fun W R N E P x0 x1 x7 cV h=>
ah Pg .eql 9 true cV (.sc (.string ⟨#[114,101,115,101,116]⟩)) fun t104=>
cz W R N E P x0 x1 x7 t104 h
def da:N5:=fun W R N E P x0 x1 x7 cV SU h=>
aH SU (
cn W R N E P x0 x1 x7 h) (
cK W R N E P x0 x1 x7 cV h)
def cT:N4:=fun W R N E P x0 x1 x7 cV h=>
ah Pg .eql 9 true cV (.sc (.string ⟨#[109,101,97,115,117,114,101]⟩)) fun t105=>
da W R N E P x0 x1 x7 cV t105 h
def dx:N6:=fun W R N E P x0 x1 x2 x7 cV oq h=>
aH oq (
bH W R N E P x0 x1 x2 h) (
cT W R N E P x0 x1 x7 cV h)
def dW:N5:=fun W R N E P x0 x1 x2 x7 cV h=>
ah Pg .eql 9 true cV (.sc (.string ⟨#[117,115,101]⟩)) fun t106=>
dx W R N E P x0 x1 x2 x7 cV t106 h
def dT:N6:=fun W R N E P x0 x1 x2 x7 cV ib h=>
aH ib (
bz W R N E P x0 x1 x7 h) (
dW W R N E P x0 x1 x2 x7 cV h)
def dV:N5:=fun W R N E P x0 x1 x2 x7 cV h=>
ah Pg .eql 9 true cV (.sc (.string ⟨#[105,102]⟩)) fun t107=>
dT W R N E P x0 x1 x2 x7 cV t107 h
def ed:N6:=fun W R N E P x0 x1 x2 x7 cV lf h=>
aH lf (
n5 W R N E P x0 x1 x7 h) (
dV W R N E P x0 x1 x2 x7 cV h)
def eJ:N5:=fun W R N E P x0 x1 x2 x7 cV h=>
ah Pg .eql 9 true cV (.sc (.string ⟨#[114,101,112,101,97,116]⟩)) fun t108=>
ed W R N E P x0 x1 x2 x7 cV t108 h
def dF:N6:=fun W R N E P x0 x1 x2 x7 cV bI h=>
aH bI (
n2 W R N E P x0 x1 h) (
eJ W R N E P x0 x1 x2 x7 cV h)
def d_:N6:=fun W R N E P x0 x1 x2 x7 cV bI h=>
aH bI (
dF W R N E P x0 x1 x2 x7 cV bI h) (
ah Pg .eql 9 true cV (.sc (.string ⟨#[103,97,116,101]⟩)) fun t109=>
dF W R N E P x0 x1 x2 x7 cV t109 h)
def dL:N5:=fun W R N E P x0 x1 x2 x7 cV h=>
ah Pg .eql 9 true cV (.sc (.string ⟨#[98,105,116,115]⟩)) fun t110=>
d_ W R N E P x0 x1 x2 x7 cV t110 h
def eC:N6:=fun W R N E P x0 x1 x2 x7 cV bI h=>
aH bI (
dF W R N E P x0 x1 x2 x7 cV bI h) (
dL W R N E P x0 x1 x2 x7 cV h)
def eu:N5:=fun W R N E P x0 x1 x2 x7 cV h=>
ah Pg .eql 9 true cV (.sc (.string ⟨#[113,117,98,105,116,115]⟩)) fun t111=>
eC W R N E P x0 x1 x2 x7 cV t111 h
def dO:N4:=fun W R N E P x0 x1 x2 x7 h=>
ai (some 0) x7 fun t112=>
al (some false) (some 1) t112 h fun t113 _=>
eu W R N E P x0 x1 x2 x7 t113 h
def e_:N3:=fun W R N E P x0 x1 x2 h=>
aP x0 fun t115=>
ai (some 0) t115 fun t116=>
al (some false) (some 1) t116 h fun t117 _=>
br (some (6,none)) t117 x1 fun t119=>
al (some true) (some 6) t119 h fun t120 _=>
bw (some [.string ⟨#[]⟩,.string ⟨#[]⟩,.slice none 0 0,.int .i64 0,.int .i64 0,.int .i64 0]) 6 42 h fun t122 abI=>
aG (some 6) t122 t120 abI W fun FK=>
dO W R N E P x0 x1 x2 t122 FK
def fg:N3:=fun W R N E P x0 x1 x2 h=>
e_ W R N E P x0 x1 x2 h
theorem aM{x0 x1 x2:AV}{h:AH}{M:WK}{R:RK}(hp:fg (fun id=>M id\/h.next<=id) (aJ Pg [.tmp 6] R) (aJ Pg [.tmp 6] R) (fun _ _ _=>False) (fun v h=>R (.cg v) h) x0 x1 x2 h):aE Pg 30 [x0,x1,x2] h M R:=
 fin (n:=137) (pl:=[(11,⟨[(none,(fr 0 8))],false,[],[6]⟩),(14,⟨[(none,(fr 0 4)),(some (3,false),(fr 4 10)),(some (13,true),(fr 14 12)),(some (3,false),(fr 26 1)),(none,(fr 27 1))],false,[],[]⟩),(21,⟨[(none,(fr 0 12)),(some (11,true),(fr 12 11)),(none,(fr 23 2))],false,[],[]⟩),(25,⟨[(none,(fr 0 12))],false,[],[]⟩)]) (rs:=[.tmp 6]) (L:=rs) (fun c=>(a3 fg 0 1 2 c)) Try.mixed Try.func30 (fun c=>
(sq (a3 fg 0 1 2 c)
(sq (a3 e_ 0 1 2 c)
(sn
(sl (a0 n1 c))
(sq (a4 dO 0 1 2 7 c)
(bk 0 (sn
(cd (a6 dF 0 1 2 7 17 18 c) (sl (a2 n2 0 1 c)) (sq (a5 eJ 0 1 2 7 17 c)
(cd (a6 ed 0 1 2 7 17 25 c) (sq (a3 n5 0 1 7 c)
(cd (a3 n4 0 1 29 c) (sl (a2 n3 0 1 c)) tr)) (sq (a5 dV 0 1 2 7 17 c)
(cd (a6 dT 0 1 2 7 17 33 c) (sn
(sn
(sn
(cd (a3 n7 0 1 74 c) (sl (a2 n6 0 1 c)) tr)
(gr (gn (a4 bc 0 1 7 8 c) (gx (a5 a_ 0 1 7 8 50 c) (gx (a6 aQ 0 1 7 8 50 60 c) (gx (a5 n9 0 1 50 60 72 c) (gl (a4 n8 0 1 50 73 c))))))))
(sq (a4 bC 0 1 7 8 c)
(cd (a5 bD 0 1 7 8 43 c) (sl (a2 bt 0 1 c)) tr)))
(gr (gl (a3 bz 0 1 7 c)))) (sq (a5 dW 0 1 2 7 17 c)
(cd (a6 dx 0 1 2 7 17 78 c) (sl (a3 bH 0 1 2 c)) (sq (a4 cT 0 1 7 17 c)
(cd (a5 da 0 1 7 17 84 c) (sn
(sn
(sm (a1 bO 6 c))
(gr (gn (a3 cp 0 1 7 c) (gx (a4 b_ 0 1 7 104 c) (gl (a2 bQ 104 115 c))))))
(sq (a3 cn 0 1 7 c)
(cd (a4 cb 0 1 7 89 c) (sl (a2 bW 0 1 c)) tr))) (sq (a4 cK 0 1 7 17 c)
(cd (a4 cz 0 1 7 117 c) (sn
(sl (a3 cj 0 1 7 c))
(sq (a3 cy 0 1 7 c)
(cd (a4 bV 0 1 7 122 c) (sl (a2 cl 0 1 c)) tr))) tr)))))))))))
(sq (a5 eu 0 1 2 7 17 c)
(cd (a6 eC 0 1 2 7 17 18 c) tr (sq (a5 dL 0 1 2 7 17 c)
(cd (a6 d_ 0 1 2 7 17 18 c) tr tr))))))))))) hp
attribute [simp] n1 n2 n3 n4 n5 n6 n7 n8 n9 aQ a_ bc bt bD bC bz bH bO bQ b_ cp bW cb cn cj cl bV cy cz cK da cT dx dW dT dV ed eJ dF d_ dL eC eu dO e_ fg
end c9
namespace ep
abbrev rs:List Nat:=[4]
def n1:N0:=fun _ R _ _ _ h=>
R [(.sc (.bool true))] h
def n2:N3:=fun W R N E P x0 x5 x6 h=>
aP x0 fun t1=>
ai (some 1) t1 fun t2=>
al (some false) (some 1) t2 h fun t3 _=>
ai (some 1) x5 fun t5=>
al (some false) (some 1) t5 h fun t6 _=>
ai (some 3) x5 fun t8=>
al (some false) (some 1) t8 h fun t9 _=>
cR (some ([.string ⟨#[]⟩,.int .i64 0,.int .i64 0],.inl [(0,1),(1,1),(2,1)])) [(0,t6),(1,x6),(2,t9)] fun t11=>
dX (some (3,85,[.string ⟨#[]⟩,.int .i64 0,.int .i64 0])) 1 [(0,t11)] h fun t12 HB=>
fu (some (3,32,85)) t3 t12 HB W fun t14 vR=>
aP x0 fun t16=>
ai (some 1) t16 fun t17=>
aG (some 1) t17 t14 vR W fun vQ=>
n1 W R N E P vQ
def n3:N2:=fun W R _ _ P x0 x1 h=>
aC Pg W 29 [x0,x1,(.sc (.int .i64 1))] h (fun t19 sW=>
R [t19] sW) P
def n4:N5:=fun W R N E P x0 x1 x5 x6 uu h=>
aH uu (
n3 W R N E P x0 x1 h) (
n2 W R N E P x0 x5 x6 h)
def n5:N4:=fun W R N E P x0 x1 x5 x6 h=>
ai (some 3) x5 fun t21=>
al (some false) (some 1) t21 h fun t22 _=>
ah Pg .sub 3 true (.sc (.int .i64 64)) x6 fun t24=>
ah Pg .gtr 3 false t22 t24 fun t25=>
n4 W R N E P x0 x1 x5 x6 t25 h
def n6:N3:=fun W R N E P x0 x1 x5 h=>
aP x0 fun t26=>
ai (some 1) t26 fun t27=>
al (some false) (some 1) t27 h fun t28 _=>
aC Pg W 18 [t28] h (fun t30 Dw=>
n5 W R N E P x0 x1 x5 t30 Dw) P
def n7:N2:=fun W R _ _ P x0 x1 h=>
aC Pg W 29 [x0,x1,(.sc (.int .i64 112))] h (fun t32 ub=>
R [t32] ub) P
def n8:N4:=fun W R N E P x0 x1 x5 Jt h=>
aH Jt (
n7 W R N E P x0 x1 h) (
n6 W R N E P x0 x1 x5 h)
def n9:N3:=fun W R N E P x0 x1 x5 h=>
ai (some 3) x5 fun t34=>
al (some false) (some 1) t34 h fun t35 _=>
ah Pg .lss 3 true t35 (.sc (.int .i64 1)) fun t37=>
n8 W R N E P x0 x1 x5 t37 h
def aQ:N3:=fun W R N E P x0 x5 x7 h=>
aP x0 fun t38=>
ai (some 2) t38 fun t39=>
al (some false) (some 1) t39 h fun t40 _=>
ai (some 1) x5 fun t42=>
al (some false) (some 1) t42 h fun t43 _=>
ai (some 3) x5 fun t45=>
al (some false) (some 1) t45 h fun t46 _=>
cR (some ([.string ⟨#[]⟩,.int .i64 0,.int .i64 0],.inl [(0,1),(1,1),(2,1)])) [(0,t43),(1,x7),(2,t46)] fun t48=>
dX (some (3,85,[.string ⟨#[]⟩,.int .i64 0,.int .i64 0])) 1 [(0,t48)] h fun t49 sT=>
fu (some (3,32,85)) t40 t49 sT W fun t51 pe=>
aP x0 fun t53=>
ai (some 2) t53 fun t54=>
aG (some 1) t54 t51 pe W fun ua=>
n1 W R N E P ua
def a_:N2:=fun W R _ _ P x0 x1 h=>
aC Pg W 29 [x0,x1,(.sc (.int .i64 1))] h (fun t56 xg=>
R [t56] xg) P
def bc:N5:=fun W R N E P x0 x1 x5 x7 Md h=>
aH Md (
a_ W R N E P x0 x1 h) (
aQ W R N E P x0 x5 x7 h)
def bt:N4:=fun W R N E P x0 x1 x5 x7 h=>
ai (some 3) x5 fun t58=>
al (some false) (some 1) t58 h fun t59 _=>
ah Pg .sub 3 true (.sc (.int .i64 64)) x7 fun t61=>
ah Pg .gtr 3 false t59 t61 fun t62=>
bc W R N E P x0 x1 x5 x7 t62 h
def bD:N3:=fun W R N E P x0 x1 x5 h=>
aP x0 fun t63=>
ai (some 2) t63 fun t64=>
al (some false) (some 1) t64 h fun t65 _=>
aC Pg W 18 [t65] h (fun t67 K_=>
bt W R N E P x0 x1 x5 t67 K_) P
def bC:N2:=fun W R _ _ P x0 x1 h=>
aC Pg W 29 [x0,x1,(.sc (.int .i64 112))] h (fun t69 xc=>
R [t69] xc) P
def bz:N4:=fun W R N E P x0 x1 x5 Mf h=>
aH Mf (
bC W R N E P x0 x1 h) (
bD W R N E P x0 x1 x5 h)
def bH:N3:=fun W R N E P x0 x1 x5 h=>
ai (some 3) x5 fun t71=>
al (some false) (some 1) t71 h fun t72 _=>
ah Pg .lss 3 true t72 (.sc (.int .i64 1)) fun t74=>
bz W R N E P x0 x1 x5 t74 h
def bO:N2:=fun W R N E P x0 x8 h=>
aP x0 fun t75=>
ai (some 3) t75 fun t76=>
al (some false) (some 1) t76 h fun t77 _=>
al (some true) (some 7) x8 h fun t79 _=>
dX (some (7,78,[.string ⟨#[]⟩,.slice none 0 0,.int .i64 0,.int .i64 0,.int .i64 0,.int .i64 0,.bool false])) 1 [(0,t79)] h fun t81 w9=>
fu (some (7,80,78)) t77 t81 w9 W fun t83 FA=>
aP x0 fun t85=>
ai (some 3) t85 fun t86=>
aG (some 1) t86 t83 FA W fun BA=>
n1 W R N E P BA
def bQ:N2:=fun W R _ _ P x0 x1 h=>
aC Pg W 29 [x0,x1,(.sc (.int .i64 113))] h (fun t88 K5=>
R [t88] K5) P
def b_:N4:=fun W R N E P x0 x1 x8 tH h=>
aH tH (
bQ W R N E P x0 x1 h) (
bO W R N E P x0 x8 h)
def cp:N3:=fun W R N E P x0 x1 x8 h=>
ai (some 1) x8 fun t90=>
al (some false) (some 1) t90 h fun t91 _=>
aC Pg W 81 [t91] h (fun t93 Fz=>
b_ W R N E P x0 x1 x8 t93 Fz) P
def bW:N5:=fun _ _ N _ _ x0 x1 x5 x8 x9 h=>
ah Pg .add 3 true x9 (.sc (.int .i64 1)) fun t95=>
N [x0,x1,x5,x8,t95] h
def cb:N5:=fun W R N E P x0 x1 x5 x8 x9 h=>
ai (some 1) x8 fun t96=>
al (some false) (some 1) t96 h fun t97 _=>
ai (some 2) x5 fun t99=>
al (some false) (some 1) t99 h fun t100 _=>
br (some (2,none)) t100 x9 fun t102=>
ai (some 0) t102 fun t103=>
al (some false) (some 1) t103 h fun t104 _=>
dX (some (1,9,[.string ⟨#[]⟩])) 1 [(0,t104)] h fun t106 FP=>
fu (some (1,16,9)) t97 t106 FP W fun t108 NL=>
ai (some 1) x8 fun t110=>
aG (some 1) t110 t108 NL W fun FN=>
bW W R N E P x0 x1 x5 x8 x9 FN
def cn:N2:=fun W R _ _ P x0 x1 h=>
aC Pg W 29 [x0,x1,(.sc (.int .i64 112))] h (fun t112 NK=>
R [t112] NK) P
def cj:N6:=fun W R N E P x0 x1 x5 x8 x9 Ed h=>
aH Ed (
cn W R N E P x0 x1 h) (
cb W R N E P x0 x1 x5 x8 x9 h)
def cl:N5:=fun W R N E P x0 x1 x5 x8 x9 h=>
ai (some 2) x5 fun t114=>
al (some false) (some 1) t114 h fun t115 _=>
br (some (2,none)) t115 x9 fun t117=>
ai (some 1) t117 fun t118=>
al (some false) (some 1) t118 h fun t119 _=>
ah Pg .neq 3 true t119 (.sc (.int .i64 (-1))) fun t121=>
cj W R N E P x0 x1 x5 x8 x9 t121 h
def bV:N6:=fun W R N E P x0 x1 x5 x8 x9 jI h=>
aH jI (
cl W R N E P x0 x1 x5 x8 x9 h) (
E 1 [x0,x1,x8] h)
def cy:N5:=fun W R N E P x0 x1 x5 x8 x9 h=>
ai (some 2) x5 fun t122=>
al (some false) (some 1) t122 h fun t123 _=>
(ba t123=false)/\bK t123 fun t125=>
ah Pg .lss 3 false x9 t125 fun t126=>
bV W R N E P x0 x1 x5 x8 x9 t126 h
def cB:GK:=fun W R N E P N' vs h=>cy W R N' (fun(i:Nat) (vs:List AV) (h:AH)=>if i=1 then cp W R N E P (vs.getD 0 aa) (vs.getD 1 aa) (vs.getD 2 aa) h else if i=0 then n1 W R N E P h else E i vs h) P (vs.getD 0 aa) (vs.getD 1 aa) (vs.getD 2 aa) (vs.getD 3 aa) (vs.getD 4 aa) h
def cz:N5:=fun W R N E P x0 x1 x5 x8 x9 h=>
cY (cB W R N E P) [x0,x1,x5,x8,x9] h
def cK:N4:=fun W R N E P x0 x1 x5 x8 h=>
cz W R N E P x0 x1 x5 x8 (.sc (.int .i64 0)) h
def da:N3:=fun W R N E P x0 x1 x5 h=>
ai (some 1) x5 fun t127=>
al (some false) (some 1) t127 h fun t128 _=>
ah Pg .add 3 true x1 (.sc (.int .i64 1)) fun t130=>
ah Pg .add 3 true x1 (.sc (.int .i64 1)) fun t131=>
ai (some 4) x5 fun t132=>
al (some false) (some 1) t132 h fun t133 _=>
ah Pg .add 3 false t131 t133 fun t135=>
cR (some ([.string ⟨#[]⟩,.slice none 0 0,.int .i64 0,.int .i64 0,.int .i64 0,.int .i64 0,.bool false],.inl [(0,1),(1,1),(2,1),(3,1),(4,1),(5,1),(6,1)])) [(0,t128),(2,t130),(3,t135),(4,(.sc (.int .i64 1))),(6,(.sc (.bool true)))] fun t136=>
bw (some [.string ⟨#[]⟩,.slice none 0 0,.int .i64 0,.int .i64 0,.int .i64 0,.int .i64 0,.bool false]) 7 78 h fun t137 abC=>
aG (some 7) t137 t136 abC W fun abB=>
cK W R N E P x0 x1 x5 t137 abB
def cT:N2:=fun W R _ _ P x0 x1 h=>
aC Pg W 29 [x0,x1,(.sc (.int .i64 111))] h (fun t140 NG=>
R [t140] NG) P
def dx:N4:=fun W R N E P x0 x1 x5 pS h=>
aH pS (
cT W R N E P x0 x1 h) (
da W R N E P x0 x1 x5 h)
def dW:N3:=fun W R N E P x0 x1 x5 h=>
ai (some 2) x5 fun t142=>
al (some false) (some 1) t142 h fun t143 _=>
(ba t143=false)/\bK t143 fun t145=>
ah Pg .eql 3 true t145 (.sc (.int .i64 0)) fun t146=>
dx W R N E P x0 x1 x5 t146 h
def dT:N4:=fun W R N E P x0 x1 x5 Mi h=>
aH Mi (
bH W R N E P x0 x1 x5 h) (
dW W R N E P x0 x1 x5 h)
def dV:N4:=fun W R N E P x0 x1 x5 lf h=>
ah Pg .eql 9 true lf (.sc (.string ⟨#[98,105,116,115]⟩)) fun t147=>
dT W R N E P x0 x1 x5 t147 h
def ed:N5:=fun W R N E P x0 x1 x5 lf v8 h=>
aH v8 (
n9 W R N E P x0 x1 x5 h) (
dV W R N E P x0 x1 x5 lf h)
def eJ:N4:=fun W R N E P x0 x1 x5 lf h=>
ah Pg .eql 9 true lf (.sc (.string ⟨#[113,117,98,105,116,115]⟩)) fun t148=>
ed W R N E P x0 x1 x5 lf t148 h
def dF:N3:=fun W R N E P x0 x1 x5 h=>
ai (some 0) x5 fun t149=>
al (some false) (some 1) t149 h fun t150 _=>
eJ W R N E P x0 x1 x5 t150 h
def d_:N2:=fun W R _ _ P x0 x1 h=>
aC Pg W 29 [x0,x1,(.sc (.int .i64 110))] h (fun t152 abw=>
R [t152] abw) P
def dL:N4:=fun W R N E P x0 x1 x5 c_ h=>
aH c_ (
d_ W R N E P x0 x1 h) (
dF W R N E P x0 x1 x5 h)
def eC:N3:=fun W R N E P x0 x1 x5 h=>
ai (some 1) x5 fun t154=>
al (some false) (some 1) t154 h fun t155 _=>
aC Pg W 80 [x0,t155] h (fun t157 ND=>
dL W R N E P x0 x1 x5 t157 ND) P
def eu:N2:=fun W R N E P x0 x1 h=>
aP x0 fun t159=>
ai (some 0) t159 fun t160=>
al (some false) (some 1) t160 h fun t161 _=>
br (some (6,none)) t161 x1 fun t163=>
al (some true) (some 6) t163 h fun t164 _=>
bw (some [.string ⟨#[]⟩,.string ⟨#[]⟩,.slice none 0 0,.int .i64 0,.int .i64 0,.int .i64 0]) 6 42 h fun t166 abr=>
aG (some 6) t166 t164 abr W fun abq=>
eC W R N E P x0 x1 t166 abq
def dO:N2:=fun W R N E P x0 x1 h=>
eu W R N E P x0 x1 h
theorem aM{x0 x1:AV}{h:AH}{M:WK}{R:RK}(hp:dO (fun id=>M id\/h.next<=id) (aJ Pg [.tmp 4] R) (aJ Pg [.tmp 4] R) (fun _ _ _=>False) (fun v h=>R (.cg v) h) x0 x1 h):aE Pg 50 [x0,x1] h M R:=
 fin (n:=159) (pl:=[(13,⟨[(none,(fr 0 12))],false,[],[]⟩),(16,⟨[(none,(fr 0 11))],false,[],[]⟩),(23,⟨[(none,(fr 0 16))],false,[],[]⟩),(30,⟨[(none,(fr 0 16))],false,[],[]⟩)]) (rs:=[.tmp 4]) (L:=rs) (fun c=>(a2 dO 0 1 c)) Try.mixed Try.func50 (fun c=>
(sq (a2 dO 0 1 c)
(sq (a2 eu 0 1 c)
(sn
(sn
(sl (a0 n1 c))
(sq (a3 dF 0 1 5 c)
(bk 0 (sq (a4 eJ 0 1 5 25 c)
(cd (a5 ed 0 1 5 25 87 c) (sn
(sq (a3 n6 0 1 5 c)
(sn
(sm (a3 n2 0 5 6 c))
(sq (a4 n5 0 1 5 6 c)
(cd (a5 n4 0 1 5 6 104 c) (sl (a2 n3 0 1 c)) tr))))
(sq (a3 n9 0 1 5 c)
(cd (a4 n8 0 1 5 91 c) (sl (a2 n7 0 1 c)) tr))) (sq (a4 dV 0 1 5 25 c)
(cd (a4 dT 0 1 5 123 c) (sn
(sq (a3 bD 0 1 5 c)
(sn
(sm (a3 aQ 0 5 7 c))
(sq (a4 bt 0 1 5 7 c)
(cd (a5 bc 0 1 5 7 140 c) (sl (a2 a_ 0 1 c)) tr))))
(sq (a3 bH 0 1 5 c)
(cd (a4 bz 0 1 5 127 c) (sl (a2 bC 0 1 c)) tr))) (sn
(sq (a3 da 0 1 5 c)
(sn
(sn
(sm (a2 bO 0 8 c))
(sq (a3 cp 0 1 8 c)
(cd (a4 b_ 0 1 8 73 c) (sl (a2 bQ 0 1 c)) tr)))
(sq (a4 cK 0 1 5 8 c)
(bk 1 (lp [0,1,5,8,9] rs [(1,[0,1,8]),(0,[])] (a5 cz 0 1 5 8 9 c) cB (fun i vs h=>if i=1 then cp c.W c.R c.N c.E c.P (vs.getD 0 aa) (vs.getD 1 aa) (vs.getD 2 aa) h else if i=0 then n1 c.W c.R c.N c.E c.P h else c.E i vs h) (.b (.t (.b (.t .o)))) fun c=>
(sn
(sn
(sm (a5 bW 0 1 5 8 9 c))
(bk 2 (sn
(sm (a5 cb 0 1 5 8 9 c))
(sq (a5 cl 0 1 5 8 9 c)
(cd (a6 cj 0 1 5 8 9 56 c) (sl (a2 cn 0 1 c)) tr)))))
(sq (a5 cy 0 1 5 8 9 c)
(cd (a6 bV 0 1 5 8 9 47 c) tr tr))))))))
(sq (a3 dW 0 1 5 c)
(cd (a4 dx 0 1 5 29 c) (sl (a2 cT 0 1 c)) tr))))))))))
(sq (a3 eC 0 1 5 c)
(cd (a4 dL 0 1 5 20 c) (sl (a2 d_ 0 1 c)) tr)))))) hp
attribute [simp] n1 n2 n3 n4 n5 n6 n7 n8 n9 aQ a_ bc bt bD bC bz bH bO bQ b_ cp bW cb cn cj cl bV cy cK da cT dx dW dT dV ed eJ dF d_ dL eC eu dO
end ep
namespace cJ
abbrev rs:List Nat:=[6]
def n1:N0:=fun _ R _ _ _ h=>
R [(.sc (.bool true))] h
def n2:N2:=fun W R _ _ P x0 x1 h=>
aC Pg W 29 [x0,x1,(.sc (.int .i64 102))] h (fun t1 h2=>
R [t1] h2) P
def n3:N3:=fun W R N E P x0 x1 Y9 h=>
aH Y9 (
n2 W R N E P x0 x1 h) (
n1 W R N E P h)
def n4:N3:=fun W R N E P x0 x1 ap h=>
ah Pg .add 3 true ap (.sc (.int .i64 1)) fun t3=>
ah Pg .gtr 3 true t3 (.sc (.int .i64 32)) fun t4=>
n3 W R N E P x0 x1 t4 h
def n5:N4:=fun W R N E P x0 x1 x2 ap h=>
aP x0 fun t5=>
ai (some 3) t5 fun t6=>
al (some false) (some 1) t6 h fun t7 _=>
ah Pg .add 3 true ap (.sc (.int .i64 1)) fun t9=>
br (some (7,none)) t7 x2 fun t10=>
ai (some 4) t10 fun t11=>
aG (some 1) t11 t9 h W fun vS=>
n4 W R N E P x0 x1 ap vS
def n6:N5:=fun W R N E P x0 x1 x2 ap Zb h=>
aH Zb (
n5 W R N E P x0 x1 x2 ap h) (
n1 W R N E P h)
def n7:N6:=fun W R N E P x0 x1 x2 ap El Zc h=>
aV El Zc (.sc (.bool false)) fun t13=>
n6 W R N E P x0 x1 x2 ap t13 h
def n8:N5:=fun W R N E P x0 x1 x2 ap El h=>
bF true El (
ah Pg .add 3 true ap (.sc (.int .i64 1)) fun t14=>
aP x0 fun t15=>
ai (some 3) t15 fun t16=>
al (some false) (some 1) t16 h fun t17 _=>
br (some (7,none)) t17 x2 fun t19=>
ai (some 4) t19 fun t20=>
al (some false) (some 1) t20 h fun t21 _=>
ah Pg .gtr 3 false t14 t21 fun t23=>
n7 W R N E P x0 x1 x2 ap El t23 h) (
n7 W R N E P x0 x1 x2 ap El aa h)
def n9:N4:=fun W R N E P x0 x1 x2 ap h=>
ah Pg .geq 3 true x2 (.sc (.int .i64 0)) fun t24=>
n8 W R N E P x0 x1 x2 ap t24 h
def aQ:N7:=fun _ _ N _ _ x0 x1 x2 x7 x9 ap bg h=>
ah Pg .add 3 true bg (.sc (.int .i64 1)) fun t25=>
N [x0,x1,x2,x7,x9,ap,t25] h
def a_:N8:=fun _ _ N _ _ x0 x1 x2 x7 x9 ap bg aY h=>
ah Pg .add 3 true aY (.sc (.int .i64 1)) fun t26=>
N [x0,x1,x2,x7,x9,ap,bg,t26] h
def bc:N2:=fun W R _ _ P x0 x1 h=>
aC Pg W 29 [x0,x1,(.sc (.int .i64 113))] h (fun t27 qI=>
R [t27] qI) P
def bt:N9:=fun W R N E P x0 x1 x2 x7 x9 ap bg aY zi h=>
aH zi (
bc W R N E P x0 x1 h) (
a_ W R N E P x0 x1 x2 x7 x9 ap bg aY h)
def bD:N8:=fun W R N E P x0 x1 x2 x7 x9 ap bg aY h=>
ai (some 2) x7 fun t29=>
al (some false) (some 1) t29 h fun t30 _=>
br (some (2,none)) t30 bg fun t32=>
al (some true) (some 2) t32 h fun t33 _=>
ai (some 2) x7 fun t35=>
al (some false) (some 1) t35 h fun t36 _=>
br (some (2,none)) t36 aY fun t38=>
al (some true) (some 2) t38 h fun t39 _=>
ah Pg .eql 44 false t33 t39 fun t41=>
bt W R N E P x0 x1 x2 x7 x9 ap bg aY t41 h
def bC:N9:=fun W R N E P x0 x1 x2 x7 x9 ap bg aY Zj h=>
aH Zj (
bD W R N E P x0 x1 x2 x7 x9 ap bg aY h) (
E 4 [x0,x1,x2,x7,x9,ap,bg] h)
def bz:N8:=fun W R N E P x0 x1 x2 x7 x9 ap bg aY h=>
ah Pg .lss 3 false aY bg fun t42=>
bC W R N E P x0 x1 x2 x7 x9 ap bg aY t42 h
def fY:GK:=fun W R N E P N' vs h=>bz W R N' (fun(i:Nat) (vs:List AV) (h:AH)=>if i=4 then aQ W R N E P (vs.getD 0 aa) (vs.getD 1 aa) (vs.getD 2 aa) (vs.getD 3 aa) (vs.getD 4 aa) (vs.getD 5 aa) (vs.getD 6 aa) h else if i=3 then aQ W R N E P (vs.getD 0 aa) (vs.getD 1 aa) (vs.getD 2 aa) (vs.getD 3 aa) (vs.getD 4 aa) (vs.getD 5 aa) (vs.getD 6 aa) h else E i vs h) P (vs.getD 0 aa) (vs.getD 1 aa) (vs.getD 2 aa) (vs.getD 3 aa) (vs.getD 4 aa) (vs.getD 5 aa) (vs.getD 6 aa) (vs.getD 7 aa) h
def bH:N8:=fun W R N E P x0 x1 x2 x7 x9 ap bg aY h=>
cY (fY W R N E P) [x0,x1,x2,x7,x9,ap,bg,aY] h
def bO:N7:=fun W R N E P x0 x1 x2 x7 x9 ap bg h=>
bH W R N E P x0 x1 x2 x7 x9 ap bg (.sc (.int .i64 0)) h
def bQ:N8:=fun W R N E P x0 x1 x2 x7 x9 ap bg Zl h=>
aH Zl (
bO W R N E P x0 x1 x2 x7 x9 ap bg h) (
E 2 [x0,x1,x2,ap] h)
def b_:N7:=fun W R N E P x0 x1 x2 x7 x9 ap bg h=>
ah Pg .lss 3 false bg x9 fun t43=>
bQ W R N E P x0 x1 x2 x7 x9 ap bg t43 h
def cB:GK:=fun W R N E P N' vs h=>b_ W R N' (fun(i:Nat) (vs:List AV) (h:AH)=>if i=2 then n9 W R N E P (vs.getD 0 aa) (vs.getD 1 aa) (vs.getD 2 aa) (vs.getD 3 aa) h else E i vs h) P (vs.getD 0 aa) (vs.getD 1 aa) (vs.getD 2 aa) (vs.getD 3 aa) (vs.getD 4 aa) (vs.getD 5 aa) (vs.getD 6 aa) h
def cp:N7:=fun W R N E P x0 x1 x2 x7 x9 ap bg h=>
cY (cB W R N E P) [x0,x1,x2,x7,x9,ap,bg] h
def bW:N6:=fun W R N E P x0 x1 x2 x7 x9 ap h=>
cp W R N E P x0 x1 x2 x7 x9 ap (.sc (.int .i64 0)) h
def cb:N7:=fun _ _ N _ _ x0 x1 x2 x7 x9 ap aq h=>
ah Pg .add 3 true aq (.sc (.int .i64 1)) fun t44=>
N [x0,x1,x2,x7,x9,ap,t44] h
def cn:N2:=fun W R _ _ P x0 x1 h=>
aC Pg W 29 [x0,x1,(.sc (.int .i64 110))] h (fun t45 Du=>
R [t45] Du) P
def cj:N8:=fun W R N E P x0 x1 x2 x7 x9 ap aq Mf h=>
aH Mf (
cn W R N E P x0 x1 h) (
cb W R N E P x0 x1 x2 x7 x9 ap aq h)
def cl:N8:=fun W R N E P x0 x1 x2 x7 x9 ap aq ax h=>
aP x0 fun t47=>
ai (some 3) t47 fun t48=>
al (some false) (some 1) t48 h fun t49 _=>
br (some (7,none)) t49 x2 fun t51=>
ai (some 1) t51 fun t52=>
al (some false) (some 1) t52 h fun t53 _=>
ai (some 0) ax fun t55=>
al (some false) (some 1) t55 h fun t56 _=>
aC Pg oY 82 [t53,t56] h (fun t58 BB=>
ah Pg .lss 3 true t58 (.sc (.int .i64 0)) fun t60=>
cj W R N E P x0 x1 x2 x7 x9 ap aq t60 BB) P
def bV:N2:=fun W R _ _ P x0 x1 h=>
aC Pg W 29 [x0,x1,(.sc (.int .i64 112))] h (fun t61 FI=>
R [t61] FI) P
def cy:N9:=fun W R N E P x0 x1 x2 x7 x9 ap aq ax Mk h=>
aH Mk (
bV W R N E P x0 x1 h) (
cl W R N E P x0 x1 x2 x7 x9 ap aq ax h)
def cz:N8:=fun W R N E P x0 x1 x2 x7 x9 ap aq ax h=>
ai (some 1) ax fun t63=>
al (some false) (some 1) t63 h fun t64 _=>
ah Pg .neq 3 true t64 (.sc (.int .i64 (-1))) fun t66=>
cy W R N E P x0 x1 x2 x7 x9 ap aq ax t66 h
def cK:N7:=fun W R N E P x0 x1 x2 x7 x9 ap aq h=>
cb W R N E P x0 x1 x2 x7 x9 ap aq h
def da:N0:=fun _ R _ _ _ h=>
R [(.sc (.bool false))] h
def cT:N8:=fun W R N E P x0 x1 x2 x7 x9 ap aq En h=>
aH En (
da W R N E P h) (
cK W R N E P x0 x1 x2 x7 x9 ap aq h)
def dx:N8:=fun W R N E P x0 x1 x2 x7 x9 ap aq ax h=>
al (some true) (some 2) ax h fun t67 _=>
aP x0 fun t69=>
ai (some 1) t69 fun t70=>
al (some false) (some 1) t70 h fun t71 _=>
aC Pg W 52 [x0,x1,t67,t71] h (fun t73 FD=>
im .not t73 fun t75=>
cT W R N E P x0 x1 x2 x7 x9 ap aq t75 FD) P
def dW:N9:=fun W R N E P x0 x1 x2 x7 x9 ap aq ax gM h=>
aH gM (
dx W R N E P x0 x1 x2 x7 x9 ap aq ax h) (
cz W R N E P x0 x1 x2 x7 x9 ap aq ax h)
def dT:N8:=fun W R N E P x0 x1 x2 x7 x9 ap aq ax h=>
ah Pg .lss 3 true x2 (.sc (.int .i64 0)) fun t76=>
dW W R N E P x0 x1 x2 x7 x9 ap aq ax t76 h
def dV:N7:=fun W R N E P x0 x1 x2 x7 x9 ap aq h=>
ai (some 2) x7 fun t77=>
al (some false) (some 1) t77 h fun t78 _=>
br (some (2,none)) t78 aq fun t80=>
al (some true) (some 2) t80 h fun t81 _=>
bw (some [.string ⟨#[]⟩,.int .i64 0]) 2 44 h fun t83 FA=>
aG (some 2) t83 t81 FA W fun rP=>
dT W R N E P x0 x1 x2 x7 x9 ap aq t83 rP
def ed:N8:=fun W R N E P x0 x1 x2 x7 x9 ap aq Jt h=>
aH Jt (
dV W R N E P x0 x1 x2 x7 x9 ap aq h) (
E 0 [x0,x1,x2,x7,x9,ap] h)
def eJ:N7:=fun W R N E P x0 x1 x2 x7 x9 ap aq h=>
ah Pg .lss 3 false aq x9 fun t86=>
ed W R N E P x0 x1 x2 x7 x9 ap aq t86 h
def kV:GK:=fun W R N E P N' vs h=>eJ W R N' (fun(i:Nat) (vs:List AV) (h:AH)=>if i=0 then bW W R N E P (vs.getD 0 aa) (vs.getD 1 aa) (vs.getD 2 aa) (vs.getD 3 aa) (vs.getD 4 aa) (vs.getD 5 aa) h else E i vs h) P (vs.getD 0 aa) (vs.getD 1 aa) (vs.getD 2 aa) (vs.getD 3 aa) (vs.getD 4 aa) (vs.getD 5 aa) (vs.getD 6 aa) h
def dF:N7:=fun W R N E P x0 x1 x2 x7 x9 ap aq h=>
cY (kV W R N E P) [x0,x1,x2,x7,x9,ap,aq] h
def d_:N6:=fun W R N E P x0 x1 x2 x7 x9 ap h=>
dF W R N E P x0 x1 x2 x7 x9 ap (.sc (.int .i64 0)) h
def dL:N2:=fun W R _ _ P x0 x1 h=>
aC Pg W 29 [x0,x1,(.sc (.int .i64 111))] h (fun t87 Vd=>
R [t87] Vd) P
def eC:N7:=fun W R N E P x0 x1 x2 x7 x9 ap tG h=>
aH tG (
dL W R N E P x0 x1 h) (
d_ W R N E P x0 x1 x2 x7 x9 ap h)
def eu:N6:=fun W R N E P x0 x1 x2 x7 x9 ap h=>
ai (some 2) x7 fun t89=>
al (some false) (some 1) t89 h fun t90 _=>
(ba t90=false)/\bK t90 fun t92=>
ah Pg .neq 3 false t92 x9 fun t93=>
eC W R N E P x0 x1 x2 x7 x9 ap t93 h
def dO:N5:=fun W R N E P x0 x1 x2 x7 x8 h=>
aP x0 fun t94=>
ai (some 3) t94 fun t95=>
al (some false) (some 1) t95 h fun t96 _=>
br (some (7,none)) t96 x8 fun t98=>
ai (some 1) t98 fun t99=>
al (some false) (some 1) t99 h fun t100 _=>
(ba t100=false)/\bK t100 fun t102=>
aP x0 fun t103=>
ai (some 3) t103 fun t104=>
al (some false) (some 1) t104 h fun t105 _=>
br (some (7,none)) t105 x8 fun t107=>
ai (some 4) t107 fun t108=>
al (some false) (some 1) t108 h fun t109 _=>
eu W R N E P x0 x1 x2 x7 t102 t109 h
def e_:N2:=fun W R _ _ P x0 x1 h=>
aC Pg W 29 [x0,x1,(.sc (.int .i64 80))] h (fun t111 FM=>
R [t111] FM) P
def fg:N6:=fun W R N E P x0 x1 x2 x7 x8 tI h=>
aH tI (
e_ W R N E P x0 x1 h) (
dO W R N E P x0 x1 x2 x7 x8 h)
def hG:N7:=fun W R N E P x0 x1 x2 x7 x8 ot wb h=>
aV ot (.sc (.bool true)) wb fun t113=>
fg W R N E P x0 x1 x2 x7 x8 t113 h
def gg:N6:=fun W R N E P x0 x1 x2 x7 x8 ot h=>
bF false ot (
aP x0 fun t114=>
ai (some 3) t114 fun t115=>
al (some false) (some 1) t115 h fun t116 _=>
br (some (7,none)) t116 x8 fun t118=>
ai (some 6) t118 fun t119=>
al (some false) (some 1) t119 h fun t120 _=>
hG W R N E P x0 x1 x2 x7 x8 ot t120 h) (
hG W R N E P x0 x1 x2 x7 x8 ot aa h)
def fq:N5:=fun W R N E P x0 x1 x2 x7 x8 h=>
ah Pg .lss 3 true x8 (.sc (.int .i64 0)) fun t122=>
gg W R N E P x0 x1 x2 x7 x8 t122 h
def iu:N8:=fun W R N E P x0 x1 x2 x7 x8 x9 ap fJ h=>
aH fJ (
fq W R N E P x0 x1 x2 x7 x8 h) (
eu W R N E P x0 x1 x2 x7 x9 ap h)
def jD:N7:=fun W R N E P x0 x1 x2 x7 x8 x9 ap h=>
ah Pg .eql 3 true x9 (.sc (.int .i64 0)) fun t123=>
iu W R N E P x0 x1 x2 x7 x8 x9 ap t123 h
def jC:N5:=fun W R N E P x0 x1 x2 x7 x8 h=>
ai (some 1) x7 fun t124=>
al (some false) (some 1) t124 h fun t125 _=>
aC Pg W 54 [t125] h (fun t127 abG=>
jD W R N E P x0 x1 x2 x7 x8 t127 (.sc (.int .i64 0)) abG) P
def ir:N4:=fun W R N E P x0 x1 x2 x7 h=>
ai (some 1) x7 fun t129=>
al (some false) (some 1) t129 h fun t130 _=>
aC Pg W 53 [x0,t130] h (fun t132 NH=>
jC W R N E P x0 x1 x2 x7 t132 NH) P
def kO:N2:=fun W R _ _ P x0 x1 h=>
aC Pg W 29 [x0,x1,(.sc (.int .i64 114))] h (fun t134 abE=>
R [t134] abE) P
def mQ:N5:=fun W R N E P x0 x1 x2 x7 kA h=>
aH kA (
kO W R N E P x0 x1 h) (
ir W R N E P x0 x1 x2 x7 h)
def mq:N6:=fun W R N E P x0 x1 x2 x7 je oW h=>
aV je oW (.sc (.bool false)) fun t136=>
mQ W R N E P x0 x1 x2 x7 t136 h
def sF:N5:=fun W R N E P x0 x1 x2 x7 je h=>
bF true je (
aP x0 fun t137=>
ai (some 3) t137 fun t138=>
al (some false) (some 1) t138 h fun t139 _=>
br (some (7,none)) t139 x2 fun t141=>
ai (some 0) t141 fun t142=>
al (some false) (some 1) t142 h fun t143 _=>
ai (some 1) x7 fun t145=>
al (some false) (some 1) t145 h fun t146 _=>
ah Pg .eql 9 false t143 t146 fun t148=>
mq W R N E P x0 x1 x2 x7 je t148 h) (
mq W R N E P x0 x1 x2 x7 je aa h)
def qz:N4:=fun W R N E P x0 x1 x2 x7 h=>
ah Pg .geq 3 true x2 (.sc (.int .i64 0)) fun t149=>
sF W R N E P x0 x1 x2 x7 t149 h
def sE:N3:=fun W R N E P x0 x1 x2 h=>
aP x0 fun t150=>
ai (some 0) t150 fun t151=>
al (some false) (some 1) t151 h fun t152 _=>
br (some (6,none)) t152 x1 fun t154=>
al (some true) (some 6) t154 h fun t155 _=>
bw (some [.string ⟨#[]⟩,.string ⟨#[]⟩,.slice none 0 0,.int .i64 0,.int .i64 0,.int .i64 0]) 6 42 h fun t157 ND=>
aG (some 6) t157 t155 ND W fun NC=>
qz W R N E P x0 x1 x2 t157 NC
def pZ:N3:=fun W R N E P x0 x1 x2 h=>
sE W R N E P x0 x1 x2 h
theorem aM{x0 x1 x2:AV}{h:AH}{M:WK}{R:RK}(hp:pZ (fun id=>M id\/h.next<=id) (aJ Pg [.tmp 6] R) (aJ Pg [.tmp 6] R) (fun _ _ _=>False) (fun v h=>R (.cg v) h) x0 x1 x2 h):aE Pg 51 [x0,x1,x2] h M R:=
 fin (n:=185) (pl:=[(2,⟨[(none,(fr 0 3)),(some (2,true),(fr 3 11)),(none,(fr 14 1))],false,[],[]⟩),(7,⟨[(none,(fr 0 3)),(some (2,false),(fr 3 8)),(none,(fr 11 1))],false,[],[]⟩),(9,⟨[(none,(fr 0 19))],false,[],[]⟩),(17,⟨[(none,(fr 0 9))],false,[],[]⟩),(21,⟨[(none,(fr 0 12))],false,[],[10]⟩),(29,⟨[(none,(fr 0 11))],false,[],[]⟩),(31,⟨[(none,(fr 0 3)),(some (2,true),(fr 3 11)),(none,(fr 14 1))],false,[],[]⟩)]) (rs:=[.tmp 6]) (L:=rs) (fun c=>(a3 pZ 0 1 2 c)) Try.mixed Try.func51 (fun c=>
(sq (a3 pZ 0 1 2 c)
(sq (a3 sE 0 1 2 c)
(sn
(sq (a4 ir 0 1 2 7 c)
(sq (a5 jC 0 1 2 7 8 c)
(sn
(sn
(sn
(sn
(sn
(sl (a0 n1 c))
(sn
(cd (a5 n6 0 1 2 10 169 c) (sq (a4 n5 0 1 2 10 c)
(sq (a3 n4 0 1 10 c)
(cd (a3 n3 0 1 181 c) (sl (a2 n2 0 1 c)) tr))) tr)
(gr (gn (a4 n9 0 1 2 10 c) (gx (a5 n8 0 1 2 10 157 c) (gl (a6 n7 0 1 2 10 157 168 c)))))))
(sq (a6 bW 0 1 2 7 9 10 c)
(bk 2 (lp [0,1,2,7,9,10,13] rs [(2,[0,1,2,10])] (a7 cp 0 1 2 7 9 10 13 c) cB (fun i vs h=>if i=2 then n9 c.W c.R c.N c.E c.P (vs.getD 0 aa) (vs.getD 1 aa) (vs.getD 2 aa) (vs.getD 3 aa) h else c.E i vs h) (.b (.t .o)) fun c=>
(sn
(sn
(sm (a7 aQ 0 1 2 7 9 10 13 c))
(bk 3 (sq (a7 bO 0 1 2 7 9 10 13 c)
(bk 4 (lp [0,1,2,7,9,10,13,14] rs [(4,[0,1,2,7,9,10,13]),(3,[0,1,2,7,9,10,13]),(2,[0,1,2,10])] (a8 bH 0 1 2 7 9 10 13 14 c) fY (fun i vs h=>if i=4 then aQ c.W c.R c.N c.E c.P (vs.getD 0 aa) (vs.getD 1 aa) (vs.getD 2 aa) (vs.getD 3 aa) (vs.getD 4 aa) (vs.getD 5 aa) (vs.getD 6 aa) h else if i=3 then aQ c.W c.R c.N c.E c.P (vs.getD 0 aa) (vs.getD 1 aa) (vs.getD 2 aa) (vs.getD 3 aa) (vs.getD 4 aa) (vs.getD 5 aa) (vs.getD 6 aa) h else c.E i vs h) (.b (.b (.t .o))) fun c=>
(sn
(sn
(sm (a8 a_ 0 1 2 7 9 10 13 14 c))
(bk 5 (sq (a8 bD 0 1 2 7 9 10 13 14 c)
(cd (a9 bt 0 1 2 7 9 10 13 14 151 c) (sl (a2 bc 0 1 c)) tr))))
(sq (a8 bz 0 1 2 7 9 10 13 14 c)
(cd (a9 bC 0 1 2 7 9 10 13 14 138 c) tr tr))))))))
(sq (a7 b_ 0 1 2 7 9 10 13 c)
(cd (a8 bQ 0 1 2 7 9 10 13 133 c) tr tr)))))))
(sq (a6 d_ 0 1 2 7 9 10 c)
(bk 0 (lp [0,1,2,7,9,10,11] rs [(0,[0,1,2,7,9,10])] (a7 dF 0 1 2 7 9 10 11 c) kV (fun i vs h=>if i=0 then bW c.W c.R c.N c.E c.P (vs.getD 0 aa) (vs.getD 1 aa) (vs.getD 2 aa) (vs.getD 3 aa) (vs.getD 4 aa) (vs.getD 5 aa) h else c.E i vs h) (.b (.t .o)) fun c=>
(sn
(sn
(sm (a7 cb 0 1 2 7 9 10 11 c))
(bk 1 (sq (a7 dV 0 1 2 7 9 10 11 c)
(sn
(sn
(sn
(cd (a8 cj 0 1 2 7 9 10 11 127 c) (sl (a2 cn 0 1 c)) tr)
(gr (gl (a8 cl 0 1 2 7 9 10 11 12 c))))
(sq (a8 cz 0 1 2 7 9 10 11 12 c)
(cd (a9 cy 0 1 2 7 9 10 11 12 112 c) (sl (a2 bV 0 1 c)) tr)))
(sq (a8 dT 0 1 2 7 9 10 11 12 c)
(cd (a9 dW 0 1 2 7 9 10 11 12 100 c) (sn
(sm (a7 cK 0 1 2 7 9 10 11 c))
(sq (a8 dx 0 1 2 7 9 10 11 12 c)
(cd (a8 cT 0 1 2 7 9 10 11 109 c) (sl (a0 da c)) tr))) tr))))))
(sq (a7 eJ 0 1 2 7 9 10 11 c)
(cd (a8 ed 0 1 2 7 9 10 11 91 c) tr tr)))))))
(sq (a6 eu 0 1 2 7 9 10 c)
(cd (a7 eC 0 1 2 7 9 10 85 c) (sl (a2 dL 0 1 c)) tr)))
(sq (a7 jD 0 1 2 7 8 9 10 c)
(cd (a8 iu 0 1 2 7 8 9 10 48 c) (sn
(sm (a5 dO 0 1 2 7 8 c))
(sn
(cd (a6 fg 0 1 2 7 8 60 c) (sl (a2 e_ 0 1 c)) tr)
(gr (gn (a5 fq 0 1 2 7 8 c) (gx (a6 gg 0 1 2 7 8 51 c) (gl (a7 hG 0 1 2 7 8 51 59 c))))))) tr)))))
(sn
(cd (a5 mQ 0 1 2 7 36 c) (sl (a2 kO 0 1 c)) tr)
(gr (gn (a4 qz 0 1 2 7 c) (gx (a5 sF 0 1 2 7 24 c) (gl (a6 mq 0 1 2 7 24 35 c)))))))))) hp
attribute [simp] n1 n2 n3 n4 n5 n6 n7 n8 n9 aQ a_ bc bt bD bC bz bO bQ b_ bW cb cn cj cl bV cy cz cK da cT dx dW dT dV ed eJ d_ dL eC eu dO e_ fg hG gg fq iu jD jC ir kO mQ mq sF qz sE pZ
end cJ
namespace nC
abbrev rs:List Nat:=[8]
def n1:N0:=fun _ R _ _ _ h=>
R [(.sc (.bool true))] h
def n2:N2:=fun W R _ _ P x0 x1 h=>
aC Pg W 29 [x0,x1,(.sc (.int .i64 112))] h (fun t1 h2=>
R [t1] h2) P
def n3:N3:=fun W R N E P x0 x1 gX h=>
aH gX (
n2 W R N E P x0 x1 h) (
n1 W R N E P h)
def n4:N4:=fun W R N E P x0 x1 lz tJ h=>
aV lz (.sc (.bool true)) tJ fun t3=>
n3 W R N E P x0 x1 t3 h
def n5:N6:=fun W R N E P x0 x1 x3 x6 x9 lz h=>
bF false lz (
ai (some 1) x6 fun t4=>
al (some false) (some 1) t4 h fun t5 _=>
br (some (3,none)) x3 x9 fun t7=>
ai (some 2) t7 fun t8=>
al (some false) (some 1) t8 h fun t9 _=>
ah Pg .geq 3 false t5 t9 fun t11=>
n4 W R N E P x0 x1 lz t11 h) (
n4 W R N E P x0 x1 lz aa h)
def n6:N5:=fun W R N E P x0 x1 x3 x6 x9 h=>
ai (some 1) x6 fun t12=>
al (some false) (some 1) t12 h fun t13 _=>
ah Pg .lss 3 true t13 (.sc (.int .i64 0)) fun t15=>
n5 W R N E P x0 x1 x3 x6 x9 t15 h
def n7:N2:=fun W R _ _ P x0 x1 h=>
aC Pg W 29 [x0,x1,(.sc (.int .i64 110))] h (fun t16 qK=>
R [t16] qK) P
def n8:N6:=fun W R N E P x0 x1 x3 x6 x9 aL h=>
aH aL (
n7 W R N E P x0 x1 h) (
n6 W R N E P x0 x1 x3 x6 x9 h)
def n9:N5:=fun W R N E P x0 x1 x3 x6 x9 h=>
ah Pg .lss 3 true x9 (.sc (.int .i64 0)) fun t18=>
n8 W R N E P x0 x1 x3 x6 x9 t18 h
def aQ:N4:=fun W R N E P x0 x1 x3 x6 h=>
ai (some 0) x6 fun t19=>
al (some false) (some 1) t19 h fun t20 _=>
aC Pg W 35 [x3,t20] h (fun t22 Dy=>
n9 W R N E P x0 x1 x3 x6 t22 Dy) P
def a_:N4:=fun W R N E P x0 x1 x2 x3 h=>
eI 2 44 x2 h fun t24 vP=>
aQ W R N E P x0 x1 x3 t24 vP
theorem aM{x0 x1 x2 x3:AV}{h:AH}{M:WK}{R:RK}(hp:a_ (fun id=>M id\/h.next<=id) (aJ Pg [.tmp 8] R) (aJ Pg [.tmp 8] R) (fun _ _ _=>False) (fun v h=>R (.cg v) h) x0 x1 x2 x3 h):aE Pg 52 [x0,x1,x2,x3] h M R:=
 fin (n:=35) (pl:=[(4,⟨[(none,(fr 0 4)),(some (3,false),(fr 4 8)),(none,(fr 12 1))],false,[],[]⟩)]) (rs:=[.tmp 8]) (L:=rs) (fun c=>(a4 a_ 0 1 2 3 c)) Try.mixed Try.func52 (fun c=>
(sq (a4 a_ 0 1 2 3 c)
(sq (a4 aQ 0 1 3 6 c)
(sn
(sn
(sl (a0 n1 c))
(sn
(cd (a3 n3 0 1 31 c) (sl (a2 n2 0 1 c)) tr)
(gr (gn (a5 n6 0 1 3 6 9 c) (gx (a6 n5 0 1 3 6 9 22 c) (gl (a4 n4 0 1 22 30 c)))))))
(sq (a5 n9 0 1 3 6 9 c)
(cd (a6 n8 0 1 3 6 9 15 c) (sl (a2 n7 0 1 c)) tr)))))) hp
attribute [simp] n1 n2 n3 n4 n5 n6 n7 n8 n9 aQ a_
end nC
namespace se
abbrev rs:List Nat:=[4]
def n1:N0:=fun _ R _ _ _ h=>
R [(.sc (.int .i64 (-1)))] h
def n2:N3:=fun _ _ N _ _ x0 x1 x5 h=>
ah Pg .add 3 true x5 (.sc (.int .i64 1)) fun t1=>
N [x0,x1,t1] h
def n3:N1:=fun _ R _ _ _ x5 h=>
R [x5] h
def n4:N4:=fun W R N E P x0 x1 x5 je h=>
aH je (
n3 W R N E P x5 h) (
n2 W R N E P x0 x1 x5 h)
def n5:N3:=fun W R N E P x0 x1 x5 h=>
aP x0 fun t2=>
ai (some 3) t2 fun t3=>
al (some false) (some 1) t3 h fun t4 _=>
br (some (7,none)) t4 x5 fun t6=>
ai (some 0) t6 fun t7=>
al (some false) (some 1) t7 h fun t8 _=>
ah Pg .eql 9 false t8 x1 fun t10=>
n4 W R N E P x0 x1 x5 t10 h
def n6:N4:=fun W R N E P x0 x1 x5 ax h=>
aH ax (
n5 W R N E P x0 x1 x5 h) (
E 0 [] h)
def n7:N3:=fun W R N E P x0 x1 x5 h=>
aP x0 fun t11=>
ai (some 3) t11 fun t12=>
al (some false) (some 1) t12 h fun t13 _=>
(ba t13=false)/\bK t13 fun t15=>
ah Pg .lss 3 false x5 t15 fun t16=>
n6 W R N E P x0 x1 x5 t16 h
def cB:GK:=fun W R N E P N' vs h=>n7 W R N' (fun(i:Nat) (vs:List AV) (h:AH)=>if i=0 then n1 W R N E P h else E i vs h) P (vs.getD 0 aa) (vs.getD 1 aa) (vs.getD 2 aa) h
def n8:N3:=fun W R N E P x0 x1 x5 h=>
cY (cB W R N E P) [x0,x1,x5] h
def n9:N2:=fun W R N E P x0 x1 h=>
n8 W R N E P x0 x1 (.sc (.int .i64 0)) h
def aQ:N2:=fun W R N E P x0 x1 h=>
n9 W R N E P x0 x1 h
theorem aM{x0 x1:AV}{h:AH}{M:WK}{R:RK}(hp:aQ (fun id=>M id\/h.next<=id) (aJ Pg [.tmp 4] R) (aJ Pg [.tmp 4] R) (fun _ _ _=>False) (fun v h=>R (.cg v) h) x0 x1 h):aE Pg 53 [x0,x1] h M R:=
 fin (n:=26) (pl:=[]) (rs:=[.tmp 4]) (L:=rs) (fun c=>(a2 aQ 0 1 c)) Try.mixed Try.func53 (fun c=>
(sq (a2 aQ 0 1 c)
(sn
(sl (a0 n1 c))
(sq (a2 n9 0 1 c)
(bk 0 (lp [0,1,5] rs [(0,[])] (a3 n8 0 1 5 c) cB (fun i vs h=>if i=0 then n1 c.W c.R c.N c.E c.P h else c.E i vs h) (.b (.t .o)) fun c=>
(sn
(sn
(sm (a3 n2 0 1 5 c))
(bk 1 (sq (a3 n5 0 1 5 c)
(cd (a4 n4 0 1 5 24 c) (sl (a1 n3 5 c)) tr))))
(sq (a3 n7 0 1 5 c)
(cd (a4 n6 0 1 5 12 c) tr tr))))))))) hp
attribute [simp] n1 n2 n3 n4 n5 n6 n7 n9 aQ
end se
namespace jY
abbrev rs:List Nat:=[4]
def n1:N1:=fun _ R _ _ _ x4 h=>
R [x4] h
def n2:N2:=fun W R N E P Aw tJ h=>
aV Aw (.sc (.bool true)) tJ fun t1=>
n1 W R N E P t1 h
def n3:N3:=fun W R N E P x0 x1 Aw h=>
bF false Aw (
aC Pg W 53 [x0,x1] h (fun t2 h3=>
ah Pg .geq 3 true t2 (.sc (.int .i64 0)) fun t4=>
n2 W R N E P Aw t4 h3) P) (
n2 W R N E P Aw aa h)
def n4:N4:=fun W R N E P x0 x1 cV je h=>
aV cV (.sc (.bool true)) je fun t5=>
n3 W R N E P x0 x1 t5 h
def n5:N3:=fun W R N E P x0 x1 cV h=>
bF false cV (
aP x0 fun t6=>
ai (some 2) t6 fun t7=>
al (some false) (some 1) t7 h fun t8 _=>
aC Pg W 35 [t8,x1] h (fun t10 nU=>
ah Pg .geq 3 true t10 (.sc (.int .i64 0)) fun t12=>
n4 W R N E P x0 x1 cV t12 nU) P) (
n4 W R N E P x0 x1 cV aa h)
def n6:N4:=fun W R N E P x0 x1 x8 aL h=>
aV x8 (.sc (.bool true)) aL fun t13=>
n5 W R N E P x0 x1 t13 h
def n7:N3:=fun W R N E P x0 x1 x8 h=>
bF false x8 (
aP x0 fun t14=>
ai (some 1) t14 fun t15=>
al (some false) (some 1) t15 h fun t16 _=>
aC Pg W 35 [t16,x1] h (fun t18 qJ=>
ah Pg .geq 3 true t18 (.sc (.int .i64 0)) fun t20=>
n6 W R N E P x0 x1 x8 t20 qJ) P) (
n6 W R N E P x0 x1 x8 aa h)
def n8:N2:=fun W R N E P x0 x1 h=>
aC Pg W 54 [x1] h (fun t21 uf=>
ah Pg .gtr 3 true t21 (.sc (.int .i64 0)) fun t23=>
n7 W R N E P x0 x1 t23 uf) P
def n9:N2:=fun W R N E P x0 x1 h=>
n8 W R N E P x0 x1 h
theorem aM{x0 x1:AV}{h:AH}{M:WK}{R:RK}(hp:n9 (fun id=>M id\/h.next<=id) (aJ Pg [.tmp 4] R) (aJ Pg [.tmp 4] R) (fun _ _ _=>False) (fun v h=>R (.cg v) h) x0 x1 h):aE Pg 80 [x0,x1] h M R:=
 fin (n:=32) (pl:=[(1,⟨[(none,(fr 0 4)),(some (3,false),(fr 4 7)),(none,(fr 11 2)),(some (12,false),(fr 13 7)),(none,(fr 20 2)),(some (21,false),(fr 22 4)),(none,(fr 26 2))],false,[],[]⟩)]) (rs:=[.tmp 4]) (L:=rs) (fun c=>(a2 n9 0 1 c)) Try.mixed Try.func80 (fun c=>
(sq (a2 n9 0 1 c)
(sn
(sm (a1 n1 4 c))
(gr (gn (a2 n8 0 1 c) (gx (a3 n7 0 1 8 c) (gn (a4 n6 0 1 8 15 c) (gx (a3 n5 0 1 17 c) (gn (a4 n4 0 1 17 24 c) (gx (a3 n3 0 1 26 c) (gl (a2 n2 26 30 c)))))))))))) hp
attribute [simp] n1 n2 n3 n4 n5 n6 n7 n8 n9
end jY
namespace mT
abbrev rs:List Nat:=[2]
def n1:N0:=fun _ R _ _ _ h=>
R [(.sc (.bool false))] h
def n2:N2:=fun _ _ N _ _ x0 x3 h=>
ah Pg .add 3 true x3 (.sc (.int .i64 1)) fun t1=>
N [x0,t1] h
def n3:N3:=fun _ _ N _ _ x0 x3 x4 h=>
ah Pg .add 3 true x4 (.sc (.int .i64 1)) fun t2=>
N [x0,x3,t2] h
def n4:N0:=fun _ R _ _ _ h=>
R [(.sc (.bool true))] h
def n5:N4:=fun W R N E P x0 x3 x4 je h=>
aH je (
n4 W R N E P h) (
n3 W R N E P x0 x3 x4 h)
def n6:N3:=fun W R N E P x0 x3 x4 h=>
br (some (1,none)) x0 x3 fun t3=>
al (some false) (some 1) t3 h fun t4 _=>
br (some (1,none)) x0 x4 fun t6=>
al (some false) (some 1) t6 h fun t7 _=>
ah Pg .eql 9 false t4 t7 fun t9=>
n5 W R N E P x0 x3 x4 t9 h
def n7:N4:=fun W R N E P x0 x3 x4 bg h=>
aH bg (
n6 W R N E P x0 x3 x4 h) (
E 2 [x0,x3] h)
def n8:N3:=fun W R N E P x0 x3 x4 h=>
ah Pg .lss 3 false x4 x3 fun t10=>
n7 W R N E P x0 x3 x4 t10 h
def fY:GK:=fun W R N E P N' vs h=>n8 W R N' (fun(i:Nat) (vs:List AV) (h:AH)=>if i=2 then n2 W R N E P (vs.getD 0 aa) (vs.getD 1 aa) h else if i=1 then n2 W R N E P (vs.getD 0 aa) (vs.getD 1 aa) h else E i vs h) P (vs.getD 0 aa) (vs.getD 1 aa) (vs.getD 2 aa) h
def n9:N3:=fun W R N E P x0 x3 x4 h=>
cY (fY W R N E P) [x0,x3,x4] h
def aQ:N2:=fun W R N E P x0 x3 h=>
n9 W R N E P x0 x3 (.sc (.int .i64 0)) h
def a_:N3:=fun W R N E P x0 x3 x8 h=>
aH x8 (
aQ W R N E P x0 x3 h) (
E 0 [] h)
def bc:N2:=fun W R N E P x0 x3 h=>
(ba x0=false)/\bK x0 fun t11=>
ah Pg .lss 3 false x3 t11 fun t12=>
a_ W R N E P x0 x3 t12 h
def cB:GK:=fun W R N E P N' vs h=>bc W R N' (fun(i:Nat) (vs:List AV) (h:AH)=>if i=0 then n1 W R N E P h else E i vs h) P (vs.getD 0 aa) (vs.getD 1 aa) h
def bt:N2:=fun W R N E P x0 x3 h=>
cY (cB W R N E P) [x0,x3] h
def bD:N1:=fun W R N E P x0 h=>
bt W R N E P x0 (.sc (.int .i64 0)) h
def bC:N1:=fun W R N E P x0 h=>
bD W R N E P x0 h
theorem aM{x0:AV}{h:AH}{M:WK}{R:RK}(hp:bC (fun id=>M id\/h.next<=id) (aJ Pg [.tmp 2] R) (aJ Pg [.tmp 2] R) (fun _ _ _=>False) (fun v h=>R (.cg v) h) x0 h):aE Pg 81 [x0] h M R:=
 fin (n:=25) (pl:=[(7,⟨[(none,(fr 0 9))],false,[],[]⟩)]) (rs:=[.tmp 2]) (L:=rs) (fun c=>(a1 bC 0 c)) Try.mixed Try.func81 (fun c=>
(sq (a1 bC 0 c)
(sn
(sl (a0 n1 c))
(sq (a1 bD 0 c)
(bk 0 (lp [0,3] rs [(0,[])] (a2 bt 0 3 c) cB (fun i vs h=>if i=0 then n1 c.W c.R c.N c.E c.P h else c.E i vs h) (.b (.t .o)) fun c=>
(sn
(sn
(sm (a2 n2 0 3 c))
(bk 1 (sq (a2 aQ 0 3 c)
(bk 2 (lp [0,3,4] rs [(2,[0,3]),(1,[0,3]),(0,[])] (a3 n9 0 3 4 c) fY (fun i vs h=>if i=2 then n2 c.W c.R c.N c.E c.P (vs.getD 0 aa) (vs.getD 1 aa) h else if i=1 then n2 c.W c.R c.N c.E c.P (vs.getD 0 aa) (vs.getD 1 aa) h else c.E i vs h) (.b (.b (.t .o))) fun c=>
(sn
(sn
(sm (a3 n3 0 3 4 c))
(bk 3 (sq (a3 n6 0 3 4 c)
(cd (a4 n5 0 3 4 24 c) (sl (a0 n4 c)) tr))))
(sq (a3 n8 0 3 4 c)
(cd (a4 n7 0 3 4 13 c) tr tr))))))))
(sq (a2 bc 0 3 c)
(cd (a3 a_ 0 3 8 c) tr tr))))))))) hp
attribute [simp] n1 n2 n3 n4 n5 n6 n7 n8 aQ a_ bc bD bC
end mT
namespace r9
abbrev rs:List Nat:=[4]
def n1:N0:=fun _ R _ _ _ h=>
R [(.sc (.int .i64 (-1)))] h
def n2:N3:=fun _ _ N _ _ x0 x1 x5 h=>
ah Pg .add 3 true x5 (.sc (.int .i64 1)) fun t1=>
N [x0,x1,t1] h
def n3:N1:=fun _ R _ _ _ x5 h=>
R [x5] h
def n4:N4:=fun W R N E P x0 x1 x5 cV h=>
aH cV (
n3 W R N E P x5 h) (
n2 W R N E P x0 x1 x5 h)
def n5:N3:=fun W R N E P x0 x1 x5 h=>
br (some (1,none)) x0 x5 fun t2=>
al (some false) (some 1) t2 h fun t3 _=>
ah Pg .eql 9 false t3 x1 fun t5=>
n4 W R N E P x0 x1 x5 t5 h
def n6:N4:=fun W R N E P x0 x1 x5 x9 h=>
aH x9 (
n5 W R N E P x0 x1 x5 h) (
E 0 [] h)
def n7:N3:=fun W R N E P x0 x1 x5 h=>
(ba x0=false)/\bK x0 fun t6=>
ah Pg .lss 3 false x5 t6 fun t7=>
n6 W R N E P x0 x1 x5 t7 h
def cB:GK:=fun W R N E P N' vs h=>n7 W R N' (fun(i:Nat) (vs:List AV) (h:AH)=>if i=0 then n1 W R N E P h else E i vs h) P (vs.getD 0 aa) (vs.getD 1 aa) (vs.getD 2 aa) h
def n8:N3:=fun W R N E P x0 x1 x5 h=>
cY (cB W R N E P) [x0,x1,x5] h
def n9:N2:=fun W R N E P x0 x1 h=>
n8 W R N E P x0 x1 (.sc (.int .i64 0)) h
def aQ:N2:=fun W R N E P x0 x1 h=>
n9 W R N E P x0 x1 h
theorem aM{x0 x1:AV}{h:AH}{M:WK}{R:RK}(hp:aQ (fun id=>M id\/h.next<=id) (aJ Pg [.tmp 4] R) (aJ Pg [.tmp 4] R) (fun _ _ _=>False) (fun v h=>R (.cg v) h) x0 x1 h):aE Pg 82 [x0,x1] h M R:=
 fin (n:=19) (pl:=[]) (rs:=[.tmp 4]) (L:=rs) (fun c=>(a2 aQ 0 1 c)) Try.mixed Try.func82 (fun c=>
(sq (a2 aQ 0 1 c)
(sn
(sl (a0 n1 c))
(sq (a2 n9 0 1 c)
(bk 0 (lp [0,1,5] rs [(0,[])] (a3 n8 0 1 5 c) cB (fun i vs h=>if i=0 then n1 c.W c.R c.N c.E c.P h else c.E i vs h) (.b (.t .o)) fun c=>
(sn
(sn
(sm (a3 n2 0 1 5 c))
(bk 1 (sq (a3 n5 0 1 5 c)
(cd (a4 n4 0 1 5 17 c) (sl (a1 n3 5 c)) tr))))
(sq (a3 n7 0 1 5 c)
(cd (a4 n6 0 1 5 9 c) tr tr))))))))) hp
attribute [simp] n1 n2 n3 n4 n5 n6 n7 n9 aQ
end r9
namespace sf
abbrev rs:List Nat:=[4]
def n1:N0:=fun _ R _ _ _ h=>
R [(.sc (.int .i64 (-1)))] h
def n2:N3:=fun _ _ N _ _ x0 x1 x5 h=>
ah Pg .add 3 true x5 (.sc (.int .i64 1)) fun t1=>
N [x0,x1,t1] h
def n3:N1:=fun _ R _ _ _ x5 h=>
R [x5] h
def n4:N4:=fun W R N E P x0 x1 x5 bI h=>
aH bI (
n3 W R N E P x5 h) (
n2 W R N E P x0 x1 x5 h)
def n5:N3:=fun W R N E P x0 x1 x5 h=>
br (some (3,none)) x0 x5 fun t2=>
ai (some 0) t2 fun t3=>
al (some false) (some 1) t3 h fun t4 _=>
ah Pg .eql 9 false t4 x1 fun t6=>
n4 W R N E P x0 x1 x5 t6 h
def n6:N4:=fun W R N E P x0 x1 x5 x9 h=>
aH x9 (
n5 W R N E P x0 x1 x5 h) (
E 0 [] h)
def n7:N3:=fun W R N E P x0 x1 x5 h=>
(ba x0=false)/\bK x0 fun t7=>
ah Pg .lss 3 false x5 t7 fun t8=>
n6 W R N E P x0 x1 x5 t8 h
def cB:GK:=fun W R N E P N' vs h=>n7 W R N' (fun(i:Nat) (vs:List AV) (h:AH)=>if i=0 then n1 W R N E P h else E i vs h) P (vs.getD 0 aa) (vs.getD 1 aa) (vs.getD 2 aa) h
def n8:N3:=fun W R N E P x0 x1 x5 h=>
cY (cB W R N E P) [x0,x1,x5] h
def n9:N2:=fun W R N E P x0 x1 h=>
n8 W R N E P x0 x1 (.sc (.int .i64 0)) h
def aQ:N2:=fun W R N E P x0 x1 h=>
n9 W R N E P x0 x1 h
theorem aM{x0 x1:AV}{h:AH}{M:WK}{R:RK}(hp:aQ (fun id=>M id\/h.next<=id) (aJ Pg [.tmp 4] R) (aJ Pg [.tmp 4] R) (fun _ _ _=>False) (fun v h=>R (.cg v) h) x0 x1 h):aE Pg 35 [x0,x1] h M R:=
 fin (n:=20) (pl:=[]) (rs:=[.tmp 4]) (L:=rs) (fun c=>(a2 aQ 0 1 c)) Try.mixed Try.func35 (fun c=>
(sq (a2 aQ 0 1 c)
(sn
(sl (a0 n1 c))
(sq (a2 n9 0 1 c)
(bk 0 (lp [0,1,5] rs [(0,[])] (a3 n8 0 1 5 c) cB (fun i vs h=>if i=0 then n1 c.W c.R c.N c.E c.P h else c.E i vs h) (.b (.t .o)) fun c=>
(sn
(sn
(sm (a3 n2 0 1 5 c))
(bk 1 (sq (a3 n5 0 1 5 c)
(cd (a4 n4 0 1 5 18 c) (sl (a1 n3 5 c)) tr))))
(sq (a3 n7 0 1 5 c)
(cd (a4 n6 0 1 5 9 c) tr tr))))))))) hp
attribute [simp] n1 n2 n3 n4 n5 n6 n7 n9 aQ
end sf
end
section
open Go.Ab
namespace dh
abbrev rs:List Nat:=[]
def n1:N5:=fun _ _ N _ _ x0 x2 x3 x4 ap h=>
aP x0 fun t1=>
ai (some 0) t1 fun t2=>
al (some false) (some 1) t2 h fun t3 _=>
br (some (6,none)) t3 ap fun t5=>
ai (some 4) t5 fun t6=>
al (some false) (some 1) t6 h fun t7 _=>
ah Pg .add 3 true (.sc (.int .i64 1)) t7 fun t9=>
ah Pg .add 3 false ap t9 fun t10=>
N [x0,x2,x3,x4,t10] h
def n2:N8:=fun W R N E P x0 x2 x3 x4 ap aq ax bg h=>
ai (some 1) aq fun t11=>
al (some false) (some 1) t11 h fun t12 _=>
al (some true) (some 7) ax h fun t14 _=>
ai (some 5) aq fun t16=>
al (some false) (some 1) t16 h fun t17 _=>
aC Pg W 33 [x0,t12,bg,t14,t17] h (fun t19 sW=>
n1 W R N E P x0 x2 x3 x4 ap sW) P
def n3:N9:=fun _ _ N _ _ x0 x2 x3 x4 ap aq ax bg aY h=>
ah Pg .add 3 true aY (.sc (.int .i64 1)) fun t21=>
N [x0,x2,x3,x4,ap,aq,ax,bg,t21] h
def n4:N9:=fun W R N E P x0 x2 x3 x4 ap aq ax bg aY h=>
ai (some 2) aq fun t22=>
al (some false) (some 1) t22 h fun t23 _=>
br (some (2,none)) t23 aY fun t25=>
al (some true) (some 2) t25 h fun t26 _=>
aP x0 fun t28=>
ai (some 1) t28 fun t29=>
al (some false) (some 1) t29 h fun t30 _=>
aC Pg oY 32 [x0,t26,t30] h (fun t32 ub=>
dX (some (1,3,[.int .i64 0])) 1 [(0,t32)] ub fun t34 oM=>
fu (some (1,8,3)) bg t34 oM W fun t36 sU=>
n3 W R N E P x0 x2 x3 x4 ap aq ax t36 aY sU) P
def n5:km:=fun W R N E P x0 x2 x3 x4 ap aq ax bg aY vj h=>
aH vj (
n4 W R N E P x0 x2 x3 x4 ap aq ax bg aY h) (
E 3 [x0,x2,x3,x4,ap,aq,ax,bg] h)
def n6:N9:=fun W R N E P x0 x2 x3 x4 ap aq ax bg aY h=>
ai (some 2) aq fun t38=>
al (some false) (some 1) t38 h fun t39 _=>
(ba t39=false)/\bK t39 fun t41=>
ah Pg .lss 3 false aY t41 fun t42=>
n5 W R N E P x0 x2 x3 x4 ap aq ax bg aY t42 h
def fY:GK:=fun W R N E P N' vs h=>n6 W R N' (fun(i:Nat) (vs:List AV) (h:AH)=>if i=3 then n2 W R N E P (vs.getD 0 aa) (vs.getD 1 aa) (vs.getD 2 aa) (vs.getD 3 aa) (vs.getD 4 aa) (vs.getD 5 aa) (vs.getD 6 aa) (vs.getD 7 aa) h else if i=2 then n1 W R N E P (vs.getD 0 aa) (vs.getD 1 aa) (vs.getD 2 aa) (vs.getD 3 aa) (vs.getD 4 aa) h else if i=1 then n1 W R N E P (vs.getD 0 aa) (vs.getD 1 aa) (vs.getD 2 aa) (vs.getD 3 aa) (vs.getD 4 aa) h else E i vs h) P (vs.getD 0 aa) (vs.getD 1 aa) (vs.getD 2 aa) (vs.getD 3 aa) (vs.getD 4 aa) (vs.getD 5 aa) (vs.getD 6 aa) (vs.getD 7 aa) (vs.getD 8 aa) h
def n7:N9:=fun W R N E P x0 x2 x3 x4 ap aq ax bg aY h=>
cY (fY W R N E P) [x0,x2,x3,x4,ap,aq,ax,bg,aY] h
def n8:N8:=fun W R N E P x0 x2 x3 x4 ap aq ax bg h=>
n7 W R N E P x0 x2 x3 x4 ap aq ax bg (.sc (.int .i64 0)) h
def n9:N7:=fun W R N E P x0 x2 x3 x4 ap aq ax h=>
ai (some 2) aq fun t43=>
al (some false) (some 1) t43 h fun t44 _=>
(ba t44=false)/\bK t44 fun t46=>
zc (some (1,8,3,[.int .i64 0])) (.sc (.int .i64 0)) t46 h fun t47 qG=>
n8 W R N E P x0 x2 x3 x4 ap aq ax t47 qG
def aQ:N7:=fun W R N E P x0 x2 x3 x4 ap aq ax h=>
al (some true) (some 7) ax h fun t49 _=>
ai (some 5) aq fun t51=>
al (some false) (some 1) t51 h fun t52 _=>
aC Pg W 34 [x0,t49,t52] h (fun t54 ua=>
n1 W R N E P x0 x2 x3 x4 ap ua) P
def a_:N7:=fun W R N E P x0 x2 x3 x4 ap aq ax h=>
ai (some 2) aq fun t56=>
al (some false) (some 1) t56 h fun t57 _=>
br (some (2,none)) t57 (.sc (.int .i64 1)) fun t59=>
al (some true) (some 2) t59 h fun t60 _=>
aP x0 fun t62=>
ai (some 2) t62 fun t63=>
al (some false) (some 1) t63 h fun t64 _=>
aC Pg oY 32 [x0,t60,t64] h (fun t66 La=>
ai (some 3) ax fun t68=>
aG (some 1) t68 t66 La W fun FF=>
aQ W R N E P x0 x2 x3 x4 ap aq ax FF) P
def bc:N7:=fun W R N E P x0 x2 x3 x4 ap aq ax h=>
ai (some 2) aq fun t70=>
al (some false) (some 1) t70 h fun t71 _=>
br (some (2,none)) t71 (.sc (.int .i64 0)) fun t73=>
al (some true) (some 2) t73 h fun t74 _=>
aP x0 fun t76=>
ai (some 1) t76 fun t77=>
al (some false) (some 1) t77 h fun t78 _=>
aC Pg oY 32 [x0,t74,t78] h (fun t80 K6=>
dX (some (1,3,[.int .i64 0])) 1 [(0,t80)] K6 fun t82 Vf=>
ai (some 2) ax fun t84=>
aG (some 1) t84 t82 Vf W fun rP=>
a_ W R N E P x0 x2 x3 x4 ap aq ax rP) P
def bt:N7:=fun W R N E P x0 x2 x3 x4 ap aq ax h=>
ai (some 0) ax fun t86=>
aG (some 1) t86 (.sc (.int .i64 2)) h W fun BA=>
bc W R N E P x0 x2 x3 x4 ap aq ax BA
def bD:N7:=fun W R N E P x0 x2 x3 x4 ap aq ax h=>
al (some true) (some 7) ax h fun t88 _=>
ai (some 5) aq fun t90=>
al (some false) (some 1) t90 h fun t91 _=>
aC Pg W 34 [x0,t88,t91] h (fun t93 Fz=>
n1 W R N E P x0 x2 x3 x4 ap Fz) P
def bC:N7:=fun W R N E P x0 x2 x3 x4 ap aq ax h=>
ai (some 2) aq fun t95=>
al (some false) (some 1) t95 h fun t96 _=>
br (some (2,none)) t96 (.sc (.int .i64 0)) fun t98=>
al (some true) (some 2) t98 h fun t99 _=>
aP x0 fun t101=>
ai (some 1) t101 fun t102=>
al (some false) (some 1) t102 h fun t103 _=>
aC Pg oY 32 [x0,t99,t103] h (fun t105 FQ=>
dX (some (1,3,[.int .i64 0])) 1 [(0,t105)] FQ fun t107 uR=>
ai (some 2) ax fun t109=>
aG (some 1) t109 t107 uR W fun FO=>
bD W R N E P x0 x2 x3 x4 ap aq ax FO) P
def bz:N7:=fun W R N E P x0 x2 x3 x4 ap aq ax h=>
ai (some 0) ax fun t111=>
aG (some 1) t111 (.sc (.int .i64 3)) h W fun FM=>
bC W R N E P x0 x2 x3 x4 ap aq ax FM
def bH:N7:=fun _ _ N _ _ x0 x2 x3 x4 ap aq aL h=>
ah Pg .add 3 true aL (.sc (.int .i64 1)) fun t113=>
N [x0,x2,x3,x4,ap,aq,t113] h
def bO:N8:=fun W R N E P x0 x2 x3 x4 ap aq aL zh h=>
aH zh (
E 5 [x0,x2,x3,x4,ap] h) (
bH W R N E P x0 x2 x3 x4 ap aq aL h)
def bQ:N8:=fun W R N E P x0 x2 x3 x4 ap aq aL cW h=>
aP x0 fun t114=>
ai (some 7) t114 fun t115=>
al (some false) (some 1) t115 h fun t116 _=>
(ba t116=false)/\bK t116 fun t118=>
ah Pg .eql 3 false t118 cW fun t119=>
bO W R N E P x0 x2 x3 x4 ap aq aL t119 h
def b_:N8:=fun W R N E P x0 x2 x3 x4 ap aq aL cW h=>
ah Pg .add 3 true ap (.sc (.int .i64 1)) fun t120=>
ah Pg .add 3 true ap (.sc (.int .i64 1)) fun t121=>
ai (some 4) aq fun t122=>
al (some false) (some 1) t122 h fun t123 _=>
ah Pg .add 3 false t121 t123 fun t125=>
aC Pg W 17 [x0,t120,t125,x3,x4] h (fun t126 NI=>
bQ W R N E P x0 x2 x3 x4 ap aq aL cW NI) P
def cp:N7:=fun W R N E P x0 x2 x3 x4 ap aq aL h=>
aP x0 fun t128=>
ai (some 7) t128 fun t129=>
al (some false) (some 1) t129 h fun t130 _=>
(ba t130=false)/\bK t130 fun t132=>
b_ W R N E P x0 x2 x3 x4 ap aq aL t132 h
def bW:N8:=fun W R N E P x0 x2 x3 x4 ap aq aL Zf h=>
aH Zf (
cp W R N E P x0 x2 x3 x4 ap aq aL h) (
E 5 [x0,x2,x3,x4,ap] h)
def cb:N9:=fun W R N E P x0 x2 x3 x4 ap aq aL Em Zg h=>
aV Em Zg (.sc (.bool false)) fun t133=>
bW W R N E P x0 x2 x3 x4 ap aq aL t133 h
def cn:N8:=fun W R N E P x0 x2 x3 x4 ap aq aL Em h=>
bF true Em (
aP x0 fun t134=>
ai (some 6) t134 fun t135=>
al (some false) (some 1) t135 h fun t136 _=>
im .not t136 fun t138=>
cb W R N E P x0 x2 x3 x4 ap aq aL Em t138 h) (
cb W R N E P x0 x2 x3 x4 ap aq aL Em aa h)
def cj:N7:=fun W R N E P x0 x2 x3 x4 ap aq aL h=>
ai (some 3) aq fun t139=>
al (some false) (some 1) t139 h fun t140 _=>
ah Pg .lss 3 false aL t140 fun t142=>
cn W R N E P x0 x2 x3 x4 ap aq aL t142 h
def kV:GK:=fun W R N E P N' vs h=>cj W R N' (fun(i:Nat) (vs:List AV) (h:AH)=>if i=5 then n1 W R N E P (vs.getD 0 aa) (vs.getD 1 aa) (vs.getD 2 aa) (vs.getD 3 aa) (vs.getD 4 aa) h else if i=2 then n1 W R N E P (vs.getD 0 aa) (vs.getD 1 aa) (vs.getD 2 aa) (vs.getD 3 aa) (vs.getD 4 aa) h else if i=1 then n1 W R N E P (vs.getD 0 aa) (vs.getD 1 aa) (vs.getD 2 aa) (vs.getD 3 aa) (vs.getD 4 aa) h else E i vs h) P (vs.getD 0 aa) (vs.getD 1 aa) (vs.getD 2 aa) (vs.getD 3 aa) (vs.getD 4 aa) (vs.getD 5 aa) (vs.getD 6 aa) h
def cl:N7:=fun W R N E P x0 x2 x3 x4 ap aq aL h=>
cY (kV W R N E P) [x0,x2,x3,x4,ap,aq,aL] h
def bV:N6:=fun W R N E P x0 x2 x3 x4 ap aq h=>
cl W R N E P x0 x2 x3 x4 ap aq (.sc (.int .i64 0)) h
def cy:N9:=fun W R N E P x0 x2 x3 x4 ap aq bI dt Y0 h=>
aH Y0 (
ah Pg .add 3 true ap (.sc (.int .i64 1)) fun t143=>
ah Pg .add 3 true ap (.sc (.int .i64 1)) fun t144=>
ai (some 4) aq fun t145=>
al (some false) (some 1) t145 h fun t146 _=>
ah Pg .add 3 false t144 t146 fun t148=>
ah Pg .or 47 false x3 bI fun t149=>
ah Pg .or 47 false x4 dt fun t150=>
aC Pg W 17 [x0,t143,t148,t149,t150] h (fun t151 abx=>
n1 W R N E P x0 x2 x3 x4 ap abx) P) (
n1 W R N E P x0 x2 x3 x4 ap h)
def cz:km:=fun W R N E P x0 x2 x3 x4 ap aq bI dt Eg Y1 h=>
aV Eg (.sc (.bool true)) Y1 fun t153=>
cy W R N E P x0 x2 x3 x4 ap aq bI dt t153 h
def cK:N9:=fun W R N E P x0 x2 x3 x4 ap aq bI dt Eg h=>
bF false Eg (
ah Pg .and 47 false x4 bI fun t154=>
ah Pg .eql 47 false t154 dt fun t155=>
cz W R N E P x0 x2 x3 x4 ap aq bI dt Eg t155 h) (
cz W R N E P x0 x2 x3 x4 ap aq bI dt Eg aa h)
def da:N8:=fun W R N E P x0 x2 x3 x4 ap aq bI dt h=>
ah Pg .and 47 false x3 bI fun t156=>
ah Pg .eql 47 true t156 (.sc (.int .u64 0)) fun t157=>
cK W R N E P x0 x2 x3 x4 ap aq bI dt t157 h
def cT:N8:=fun W R N E P x0 x2 x3 x4 ap aq cV bI h=>
ai (some 3) aq fun t158=>
al (some false) (some 1) t158 h fun t159 _=>
qp (some .u64) t159 fun t161=>
aP x0 fun t162=>
ai (some 2) t162 fun t163=>
al (some false) (some 1) t163 h fun t164 _=>
br (some (3,none)) t164 cV fun t166=>
ai (some 1) t166 fun t167=>
al (some false) (some 1) t167 h fun t168 _=>
ah Pg .shl 47 false t161 t168 fun t170=>
da W R N E P x0 x2 x3 x4 ap aq bI t170 h
def dx:N7:=fun W R N E P x0 x2 x3 x4 ap aq cV h=>
aP x0 fun t171=>
ai (some 2) t171 fun t172=>
al (some false) (some 1) t172 h fun t173 _=>
br (some (3,none)) t173 cV fun t175=>
ai (some 2) t175 fun t176=>
al (some false) (some 1) t176 h fun t177 _=>
ah Pg .sub 3 true t177 (.sc (.int .i64 1)) fun t179=>
ah Pg .shl 47 true (.sc (.int .u64 1)) t179 fun t180=>
ah Pg .mul 47 true t180 (.sc (.int .u64 2)) fun t181=>
ah Pg .sub 47 true t181 (.sc (.int .u64 1)) fun t182=>
aP x0 fun t183=>
ai (some 2) t183 fun t184=>
al (some false) (some 1) t184 h fun t185 _=>
br (some (3,none)) t185 cV fun t187=>
ai (some 1) t187 fun t188=>
al (some false) (some 1) t188 h fun t189 _=>
ah Pg .shl 47 false t182 t189 fun t191=>
cT W R N E P x0 x2 x3 x4 ap aq cV t191 h
def dW:N6:=fun W R N E P x0 x2 x3 x4 ap aq h=>
aP x0 fun t192=>
ai (some 2) t192 fun t193=>
al (some false) (some 1) t193 h fun t194 _=>
ai (some 1) aq fun t196=>
al (some false) (some 1) t196 h fun t197 _=>
aC Pg oY 35 [t194,t197] h (fun t199 Nx=>
dx W R N E P x0 x2 x3 x4 ap aq t199 Nx) P
def dT:N7:=fun W R N E P x0 x2 x3 x4 ap aq Y_ h=>
aH Y_ (
dW W R N E P x0 x2 x3 x4 ap aq h) (
n1 W R N E P x0 x2 x3 x4 ap h)
def dV:N7:=fun W R N E P x0 x2 x3 x4 ap aq iI h=>
ah Pg .eql 9 true iI (.sc (.string ⟨#[105,102]⟩)) fun t201=>
dT W R N E P x0 x2 x3 x4 ap aq t201 h
def ed:N8:=fun W R N E P x0 x2 x3 x4 ap aq iI Zh h=>
aH Zh (
bV W R N E P x0 x2 x3 x4 ap aq h) (
dV W R N E P x0 x2 x3 x4 ap aq iI h)
def eJ:N7:=fun W R N E P x0 x2 x3 x4 ap aq iI h=>
ah Pg .eql 9 true iI (.sc (.string ⟨#[114,101,112,101,97,116]⟩)) fun t202=>
ed W R N E P x0 x2 x3 x4 ap aq iI t202 h
def dF:N9:=fun W R N E P x0 x2 x3 x4 ap aq ax iI rr h=>
aH rr (
bz W R N E P x0 x2 x3 x4 ap aq ax h) (
eJ W R N E P x0 x2 x3 x4 ap aq iI h)
def d_:N8:=fun W R N E P x0 x2 x3 x4 ap aq ax iI h=>
ah Pg .eql 9 true iI (.sc (.string ⟨#[114,101,115,101,116]⟩)) fun t203=>
dF W R N E P x0 x2 x3 x4 ap aq ax iI t203 h
def dL:N9:=fun W R N E P x0 x2 x3 x4 ap aq ax iI Jt h=>
aH Jt (
bt W R N E P x0 x2 x3 x4 ap aq ax h) (
d_ W R N E P x0 x2 x3 x4 ap aq ax iI h)
def eC:N8:=fun W R N E P x0 x2 x3 x4 ap aq ax iI h=>
ah Pg .eql 9 true iI (.sc (.string ⟨#[109,101,97,115,117,114,101]⟩)) fun t204=>
dL W R N E P x0 x2 x3 x4 ap aq ax iI t204 h
def eu:N9:=fun W R N E P x0 x2 x3 x4 ap aq ax iI Ed h=>
aH Ed (
n9 W R N E P x0 x2 x3 x4 ap aq ax h) (
eC W R N E P x0 x2 x3 x4 ap aq ax iI h)
def dO:N8:=fun W R N E P x0 x2 x3 x4 ap aq ax iI h=>
ah Pg .eql 9 true iI (.sc (.string ⟨#[117,115,101]⟩)) fun t205=>
eu W R N E P x0 x2 x3 x4 ap aq ax iI t205 h
def e_:N7:=fun W R N E P x0 x2 x3 x4 ap aq ax h=>
ai (some 0) aq fun t206=>
al (some false) (some 1) t206 h fun t207 _=>
dO W R N E P x0 x2 x3 x4 ap aq ax t207 h
def fg:N6:=fun W R N E P x0 x2 x3 x4 ap aq h=>
ah Pg .neq 47 true x3 (.sc (.int .u64 0)) fun t209=>
cR (some ([.int .i64 0,.string ⟨#[]⟩,.slice none 0 0,.int .i64 0,.bool false,.int .u64 0,.int .u64 0],.inl [(0,1),(1,1),(2,1),(3,1),(4,1),(5,1),(6,1)])) [(4,t209),(5,x3),(6,x4)] fun t210=>
bw (some [.int .i64 0,.string ⟨#[]⟩,.slice none 0 0,.int .i64 0,.bool false,.int .u64 0,.int .u64 0]) 7 49 h fun t211 aba=>
aG (some 7) t211 t210 aba W fun Nw=>
e_ W R N E P x0 x2 x3 x4 ap aq t211 Nw
def hG:N5:=fun W R N E P x0 x2 x3 x4 ap h=>
aP x0 fun t214=>
ai (some 0) t214 fun t215=>
al (some false) (some 1) t215 h fun t216 _=>
br (some (6,none)) t216 ap fun t218=>
al (some true) (some 6) t218 h fun t219 _=>
bw (some [.string ⟨#[]⟩,.string ⟨#[]⟩,.slice none 0 0,.int .i64 0,.int .i64 0,.int .i64 0]) 6 42 h fun t221 aa8=>
aG (some 6) t221 t219 aa8 W fun aa7=>
fg W R N E P x0 x2 x3 x4 ap t221 aa7
def gg:N6:=fun W R N E P x0 x2 x3 x4 ap tJ h=>
aH tJ (
hG W R N E P x0 x2 x3 x4 ap h) (
E 0 [] h)
def fq:N7:=fun W R N E P x0 x2 x3 x4 ap je pS h=>
aV je pS (.sc (.bool false)) fun t224=>
gg W R N E P x0 x2 x3 x4 ap t224 h
def iu:N6:=fun W R N E P x0 x2 x3 x4 ap je h=>
bF true je (
aP x0 fun t225=>
ai (some 6) t225 fun t226=>
al (some false) (some 1) t226 h fun t227 _=>
im .not t227 fun t229=>
fq W R N E P x0 x2 x3 x4 ap je t229 h) (
fq W R N E P x0 x2 x3 x4 ap je aa h)
def jD:N5:=fun W R N E P x0 x2 x3 x4 ap h=>
ah Pg .lss 3 false ap x2 fun t230=>
iu W R N E P x0 x2 x3 x4 ap t230 h
def cB:GK:=fun W R N E P N' vs h=>jD W R N' (fun(i:Nat) (vs:List AV) (h:AH)=>if i=0 then N vs h else E i vs h) P (vs.getD 0 aa) (vs.getD 1 aa) (vs.getD 2 aa) (vs.getD 3 aa) (vs.getD 4 aa) h
def jC:N5:=fun W R N E P x0 x2 x3 x4 ap h=>
cY (cB W R N E P) [x0,x2,x3,x4,ap] h
def ir:N5:=fun W R N E P x0 x1 x2 x3 x4 h=>
jC W R N E P x0 x2 x3 x4 x1 h
theorem aM{x0 x1 x2 x3 x4:AV}{h:AH}{M:WK}{R:RK}(hp:ir (fun id=>M id\/h.next<=id) (aJ Pg [] R) (aJ Pg [] R) (fun _ _ _=>False) (fun v h=>R (.cg v) h) x0 x1 x2 x3 x4 h):aE Pg 17 [x0,x1,x2,x3,x4] h M R:=
 fin (n:=248) (pl:=[(1,⟨[(none,(fr 0 4)),(some (3,true),(fr 4 5)),(none,(fr 9 1))],false,[],[]⟩),(11,⟨[(none,(fr 0 15))],false,[],[11]⟩),(15,⟨[(none,(fr 0 13))],false,[],[9]⟩),(16,⟨[(none,(fr 0 12))],false,[],[9]⟩),(20,⟨[(none,(fr 0 13))],false,[],[9]⟩),(24,⟨[(none,(fr 0 5)),(some (4,true),(fr 5 5)),(none,(fr 10 1))],false,[],[]⟩),(30,⟨[(none,(fr 0 8))],false,[],[6]⟩),(31,⟨[(none,(fr 0 22))],false,[],[]⟩),(32,⟨[(none,(fr 0 13))],false,[],[]⟩),(33,⟨[(none,(fr 0 5)),(some (4,false),(fr 5 5)),(none,(fr 10 1))],false,[],[]⟩)]) (rs:=[]) (L:=rs) (fun c=>(a5 ir 0 1 2 3 4 c)) Try.mixed Try.func17 (fun c=>
(sq (a5 ir 0 1 2 3 4 c)
(bk 0 (lp [0,2,3,4,10] rs [(0,[])] (a5 jC 0 2 3 4 10 c) cB (fun i vs h=>if i=0 then c.N vs h else c.E i vs h) (.b .o) fun c=>
(sn
(sn
(sm (a5 n1 0 2 3 4 10 c))
(bk 1 (sq (a5 hG 0 2 3 4 10 c)
(sq (a6 fg 0 2 3 4 10 11 c)
(sq (a7 e_ 0 2 3 4 10 11 12 c)
(bk 2 (sq (a8 dO 0 2 3 4 10 11 12 55 c)
(cd (a9 eu 0 2 3 4 10 11 12 55 56 c) (sq (a7 n9 0 2 3 4 10 11 12 c)
(sn
(sm (a8 n2 0 2 3 4 10 11 12 13 c))
(sq (a8 n8 0 2 3 4 10 11 12 13 c)
(bk 3 (lp [0,2,3,4,10,11,12,13,14] rs [(3,[0,2,3,4,10,11,12,13]),(2,[0,2,3,4,10]),(1,[0,2,3,4,10]),(0,[])] (a9 n7 0 2 3 4 10 11 12 13 14 c) fY (fun i vs h=>if i=3 then n2 c.W c.R c.N c.E c.P (vs.getD 0 aa) (vs.getD 1 aa) (vs.getD 2 aa) (vs.getD 3 aa) (vs.getD 4 aa) (vs.getD 5 aa) (vs.getD 6 aa) (vs.getD 7 aa) h else if i=2 then n1 c.W c.R c.N c.E c.P (vs.getD 0 aa) (vs.getD 1 aa) (vs.getD 2 aa) (vs.getD 3 aa) (vs.getD 4 aa) h else if i=1 then n1 c.W c.R c.N c.E c.P (vs.getD 0 aa) (vs.getD 1 aa) (vs.getD 2 aa) (vs.getD 3 aa) (vs.getD 4 aa) h else c.E i vs h) (.b (.t (.b (.b (.t .o))))) fun c=>
(sn
(sn
(sm (a9 n3 0 2 3 4 10 11 12 13 14 c))
(bk 4 (gr (gl (a9 n4 0 2 3 4 10 11 12 13 14 c)))))
(sq (a9 n6 0 2 3 4 10 11 12 13 14 c)
(cd (kE n5 0 2 3 4 10 11 12 13 14 66 c) tr tr)))))))) (sq (a8 eC 0 2 3 4 10 11 12 55 c)
(cd (a9 dL 0 2 3 4 10 11 12 55 91 c) (sq (a7 bt 0 2 3 4 10 11 12 c)
(sn
(sn
(sm (a7 aQ 0 2 3 4 10 11 12 c))
(gr (gl (a7 a_ 0 2 3 4 10 11 12 c))))
(gr (gl (a7 bc 0 2 3 4 10 11 12 c))))) (sq (a8 d_ 0 2 3 4 10 11 12 55 c)
(cd (a9 dF 0 2 3 4 10 11 12 55 122 c) (sq (a7 bz 0 2 3 4 10 11 12 c)
(sn
(sm (a7 bD 0 2 3 4 10 11 12 c))
(gr (gl (a7 bC 0 2 3 4 10 11 12 c))))) (sq (a7 eJ 0 2 3 4 10 11 55 c)
(cd (a8 ed 0 2 3 4 10 11 55 142 c) (sq (a6 bV 0 2 3 4 10 11 c)
(bk 5 (lp [0,2,3,4,10,11,15] rs [(5,[0,2,3,4,10]),(2,[0,2,3,4,10]),(1,[0,2,3,4,10]),(0,[])] (a7 cl 0 2 3 4 10 11 15 c) kV (fun i vs h=>if i=5 then n1 c.W c.R c.N c.E c.P (vs.getD 0 aa) (vs.getD 1 aa) (vs.getD 2 aa) (vs.getD 3 aa) (vs.getD 4 aa) h else if i=2 then n1 c.W c.R c.N c.E c.P (vs.getD 0 aa) (vs.getD 1 aa) (vs.getD 2 aa) (vs.getD 3 aa) (vs.getD 4 aa) h else if i=1 then n1 c.W c.R c.N c.E c.P (vs.getD 0 aa) (vs.getD 1 aa) (vs.getD 2 aa) (vs.getD 3 aa) (vs.getD 4 aa) h else c.E i vs h) (.b (.b (.b (.t .o)))) fun c=>
(sn
(sn
(sm (a7 bH 0 2 3 4 10 11 15 c))
(bk 6 (sq (a7 cp 0 2 3 4 10 11 15 c)
(sq (a8 b_ 0 2 3 4 10 11 15 16 c)
(sq (a8 bQ 0 2 3 4 10 11 15 16 c)
(cd (a8 bO 0 2 3 4 10 11 15 179 c) tr tr))))))
(sn
(cd (a8 bW 0 2 3 4 10 11 15 154 c) tr tr)
(gr (gn (a7 cj 0 2 3 4 10 11 15 c) (gx (a8 cn 0 2 3 4 10 11 15 148 c) (gl (a9 cb 0 2 3 4 10 11 15 148 153 c)))))))))) (sq (a7 dV 0 2 3 4 10 11 55 c)
(cd (a7 dT 0 2 3 4 10 11 180 c) (sn
(sq (a7 dx 0 2 3 4 10 11 17 c)
(sq (a8 cT 0 2 3 4 10 11 17 18 c)
(sn
(cd (a9 cy 0 2 3 4 10 11 18 19 232 c) tr tr)
(gr (gn (a8 da 0 2 3 4 10 11 18 19 c) (gx (a9 cK 0 2 3 4 10 11 18 19 226 c) (gl (kE cz 0 2 3 4 10 11 18 19 226 231 c))))))))
(gr (gl (a6 dW 0 2 3 4 10 11 c)))) tr))))))))))))))))
(sn
(cd (a6 gg 0 2 3 4 10 30 c) tr tr)
(gr (gn (a5 jD 0 2 3 4 10 c) (gx (a6 iu 0 2 3 4 10 24 c) (gl (a7 fq 0 2 3 4 10 24 29 c))))))))))) hp
attribute [simp] n1 n2 n3 n4 n5 n6 n8 n9 aQ a_ bc bt bD bC bz bH bO bQ b_ cp bW cb cn cj bV cy cz cK da cT dx dW dT dV ed eJ dF d_ dL eC eu dO e_ fg hG gg fq iu jD ir
end dh
namespace ii
abbrev rs:List Nat:=[6]
def n1:N1:=fun _ R _ _ _ x7 h=>
R [x7] h
def n2:N4:=fun _ _ N _ _ x0 x2 x7 x8 h=>
aP x0 fun t1=>
ai (some 0) t1 fun t2=>
al (some false) (some 1) t2 h fun t3 _=>
br (some (6,none)) t3 x8 fun t5=>
ai (some 4) t5 fun t6=>
al (some false) (some 1) t6 h fun t7 _=>
ah Pg .add 3 true (.sc (.int .i64 1)) t7 fun t9=>
ah Pg .add 3 false x8 t9 fun t10=>
N [x0,x2,x7,t10] h
def n3:N5:=fun W R N E P x0 x2 x7 x8 ap h=>
ah Pg .add 3 false x7 ap fun t11=>
qy true t11 (.sc (.int .i64 4097)) fun t12=>
n2 W R N E P x0 x2 t12 x8 h
def n4:N7:=fun W R N E P x0 x2 x7 x8 x9 ap wg h=>
aH wg (
n3 W R N E P x0 x2 x7 x8 (.sc (.int .i64 4097)) h) (
ai (some 3) x9 fun t13=>
al (some false) (some 1) t13 h fun t14 _=>
qy true t14 (.sc (.int .i64 4097)) fun t16=>
ah Pg .mul 3 false ap t16 fun t17=>
n3 W R N E P x0 x2 x7 x8 t17 h)
def n5:N8:=fun W R N E P x0 x2 x7 x8 x9 ap fJ ot h=>
aV fJ ot (.sc (.bool false)) fun t18=>
n4 W R N E P x0 x2 x7 x8 x9 ap t18 h
def n6:N7:=fun W R N E P x0 x2 x7 x8 x9 ap fJ h=>
bF true fJ (
ai (some 3) x9 fun t19=>
al (some false) (some 1) t19 h fun t20 _=>
ah Pg .gtr 3 true t20 (.sc (.int .i64 4096)) fun t22=>
n5 W R N E P x0 x2 x7 x8 x9 ap fJ t22 h) (
n5 W R N E P x0 x2 x7 x8 x9 ap fJ aa h)
def n7:N6:=fun W R N E P x0 x2 x7 x8 x9 ap h=>
ah Pg .gtr 3 true ap (.sc (.int .i64 0)) fun t23=>
n6 W R N E P x0 x2 x7 x8 x9 ap t23 h
def n8:N5:=fun W R N E P x0 x2 x7 x8 x9 h=>
ah Pg .add 3 true x8 (.sc (.int .i64 1)) fun t24=>
ah Pg .add 3 true x8 (.sc (.int .i64 1)) fun t25=>
ai (some 4) x9 fun t26=>
al (some false) (some 1) t26 h fun t27 _=>
ah Pg .add 3 false t25 t27 fun t29=>
aC Pg W 31 [x0,t24,t29] h (fun t30 Dw=>
n7 W R N E P x0 x2 x7 x8 x9 t30 Dw) P
def n9:N7:=fun W R N E P x0 x2 x7 x8 ap aq iH h=>
aH iH (
aP x0 fun t32=>
ai (some 3) t32 fun t33=>
al (some false) (some 1) t33 h fun t34 _=>
br (some (7,none)) t34 aq fun t36=>
ai (some 5) t36 fun t37=>
al (some false) (some 1) t37 h fun t38 _=>
n3 W R N E P x0 x2 x7 x8 t38 h) (
n3 W R N E P x0 x2 x7 x8 ap h)
def aQ:N8:=fun W R N E P x0 x2 x7 x8 ap aq pR gf h=>
aV pR gf (.sc (.bool false)) fun t40=>
n9 W R N E P x0 x2 x7 x8 ap aq t40 h
def a_:N8:=fun W R N E P x0 x2 x7 x8 x9 ap aq pR h=>
bF true pR (
ai (some 1) x9 fun t41=>
al (some false) (some 1) t41 h fun t42 _=>
aC Pg W 54 [t42] h (fun t44 qH=>
ah Pg .eql 3 true t44 (.sc (.int .i64 0)) fun t46=>
aQ W R N E P x0 x2 x7 x8 ap aq pR t46 qH) P) (
aQ W R N E P x0 x2 x7 x8 ap aq pR aa h)
def bc:N7:=fun W R N E P x0 x2 x7 x8 x9 ap aq h=>
ah Pg .geq 3 true aq (.sc (.int .i64 0)) fun t47=>
a_ W R N E P x0 x2 x7 x8 x9 ap aq t47 h
def bt:N6:=fun W R N E P x0 x2 x7 x8 x9 ap h=>
ai (some 1) x9 fun t48=>
al (some false) (some 1) t48 h fun t49 _=>
aC Pg W 53 [x0,t49] h (fun t51 pe=>
bc W R N E P x0 x2 x7 x8 x9 ap t51 pe) P
def bD:N7:=fun W R N E P x0 x2 x7 x8 x9 ap kA h=>
aH kA (
n8 W R N E P x0 x2 x7 x8 x9 h) (
bt W R N E P x0 x2 x7 x8 x9 ap h)
def bC:N6:=fun W R N E P x0 x2 x7 x8 x9 ap h=>
ai (some 0) x9 fun t53=>
al (some false) (some 1) t53 h fun t54 _=>
ah Pg .eql 9 true t54 (.sc (.string ⟨#[114,101,112,101,97,116]⟩)) fun t56=>
bD W R N E P x0 x2 x7 x8 x9 ap t56 h
def bz:N5:=fun W R N E P x0 x2 x7 x8 x9 h=>
bC W R N E P x0 x2 x7 x8 x9 (.sc (.int .i64 1)) h
def bH:N4:=fun W R N E P x0 x2 x7 x8 h=>
aP x0 fun t57=>
ai (some 0) t57 fun t58=>
al (some false) (some 1) t58 h fun t59 _=>
br (some (6,none)) t59 x8 fun t61=>
al (some true) (some 6) t61 h fun t62 _=>
bw (some [.string ⟨#[]⟩,.string ⟨#[]⟩,.slice none 0 0,.int .i64 0,.int .i64 0,.int .i64 0]) 6 42 h fun t64 FG=>
aG (some 6) t64 t62 FG W fun Lb=>
bz W R N E P x0 x2 x7 x8 t64 Lb
def bO:N5:=fun W R N E P x0 x2 x7 x8 aL h=>
aH aL (
bH W R N E P x0 x2 x7 x8 h) (
E 0 [x7] h)
def bQ:N4:=fun W R N E P x0 x2 x7 x8 h=>
ah Pg .lss 3 false x8 x2 fun t67=>
bO W R N E P x0 x2 x7 x8 t67 h
def cB:GK:=fun W R N E P N' vs h=>bQ W R N' (fun(i:Nat) (vs:List AV) (h:AH)=>if i=0 then n1 W R N E P (vs.getD 0 aa) h else E i vs h) P (vs.getD 0 aa) (vs.getD 1 aa) (vs.getD 2 aa) (vs.getD 3 aa) h
def b_:N4:=fun W R N E P x0 x2 x7 x8 h=>
cY (cB W R N E P) [x0,x2,x7,x8] h
def cp:N4:=fun W R N E P x0 x1 x2 x7 h=>
b_ W R N E P x0 x2 x7 x1 h
def bW:N3:=fun W R N E P x0 x1 x2 h=>
cp W R N E P x0 x1 x2 (.sc (.int .i64 0)) h
def cb:N3:=fun W R N E P x0 x1 x2 h=>
bW W R N E P x0 x1 x2 h
theorem aM{x0 x1 x2:AV}{h:AH}{M:WK}{R:RK}(hp:cb (fun id=>M id\/h.next<=id) (aJ Pg [.tmp 6] R) (aJ Pg [.tmp 6] R) (fun _ _ _=>False) (fun v h=>R (.cg v) h) x0 x1 x2 h):aE Pg 31 [x0,x1,x2] h M R:=
 fin (n:=83) (pl:=[(9,⟨[(none,(fr 0 3)),(some (2,true),(fr 3 3)),(none,(fr 6 1))],false,[],[]⟩),(13,⟨[(none,(fr 0 3)),(some (2,true),(fr 3 4)),(none,(fr 7 1))],false,[],[]⟩)]) (rs:=[.tmp 6]) (L:=rs) (fun c=>(a3 cb 0 1 2 c)) Try.mixed Try.func31 (fun c=>
(sq (a3 cb 0 1 2 c)
(sq (a3 bW 0 1 2 c)
(sn
(sl (a1 n1 7 c))
(sq (a4 cp 0 1 2 7 c)
(bk 0 (lp [0,2,7,8] rs [(0,[7])] (a4 b_ 0 2 7 8 c) cB (fun i vs h=>if i=0 then n1 c.W c.R c.N c.E c.P (vs.getD 0 aa) h else c.E i vs h) (.b (.t .o)) fun c=>
(sn
(sn
(sm (a4 n2 0 2 7 8 c))
(bk 1 (sq (a4 bH 0 2 7 8 c)
(sq (a5 bz 0 2 7 8 9 c)
(sn
(sm (a5 n3 0 2 7 8 10 c))
(sq (a6 bC 0 2 7 8 9 10 c)
(cd (a7 bD 0 2 7 8 9 10 36 c) (sq (a5 n8 0 2 7 8 9 c)
(sn
(cd (a7 n4 0 2 7 8 9 10 52 c) tr tr)
(gr (gn (a6 n7 0 2 7 8 9 10 c) (gx (a7 n6 0 2 7 8 9 10 48 c) (gl (a8 n5 0 2 7 8 9 10 48 51 c))))))) (sq (a6 bt 0 2 7 8 9 10 c)
(sn
(cd (a7 n9 0 2 7 8 10 11 69 c) tr tr)
(gr (gn (a7 bc 0 2 7 8 9 10 11 c) (gx (a8 a_ 0 2 7 8 9 10 11 64 c) (gl (a8 aQ 0 2 7 8 10 11 64 68 c))))))))))))))
(sq (a4 bQ 0 2 7 8 c)
(cd (a5 bO 0 2 7 8 15 c) tr tr)))))))))) hp
attribute [simp] n1 n2 n3 n4 n5 n6 n7 n8 n9 aQ a_ bc bt bD bC bz bH bO bQ cp bW cb
end ii
namespace vZ
abbrev rs:List Nat:=[]
def n1:N2:=fun W _ N _ _ x0 x2 h=>
aP x0 fun t1=>
ai (some 8) t1 fun t2=>
al (some false) (some 1) t2 h fun t3 _=>
dX (some (1,3,[.int .i64 0])) 1 [(0,x2)] h fun t5 h6=>
fu (some (1,8,3)) t3 t5 h6 W fun t7 h8=>
aP x0 fun t9=>
ai (some 8) t9 fun t10=>
aG (some 1) t10 t7 h8 W fun nU=>
N [] nU
def n2:N3:=fun W R N E P x0 x2 x4 h=>
aP x0 fun t12=>
ai (some 7) t12 fun t13=>
al (some false) (some 1) t13 h fun t14 _=>
al (some true) (some 7) x4 h fun t16 _=>
dX (some (7,49,[.int .i64 0,.string ⟨#[]⟩,.slice none 0 0,.int .i64 0,.bool false,.int .u64 0,.int .u64 0])) 1 [(0,t16)] h fun t18 qJ=>
fu (some (7,80,49)) t14 t18 qJ W fun t20 yY=>
aP x0 fun t22=>
ai (some 7) t22 fun t23=>
aG (some 1) t23 t20 yY W fun sV=>
n1 W R N E P x0 x2 sV
def n3:N2:=fun W R _ _ _ x0 x2 h=>
aP x0 fun t25=>
ai (some 4) t25 fun t26=>
aG (some 1) t26 x2 h W fun vO=>
aP x0 fun t28=>
ai (some 5) t28 fun t29=>
aG (some 1) t29 (.sc (.int .i64 115)) vO W fun Dx=>
R [] Dx
def n4:N2:=fun W R N E P x0 x2 h=>
aP x0 fun t31=>
ai (some 6) t31 fun t32=>
aG (some 1) t32 (.sc (.bool true)) h W fun ub=>
n3 W R N E P x0 x2 ub
def n5:N4:=fun W R N E P x0 x2 x4 aL h=>
aH aL (
n4 W R N E P x0 x2 h) (
n2 W R N E P x0 x2 x4 h)
def n6:N3:=fun W R N E P x0 x2 x4 h=>
aP x0 fun t34=>
ai (some 7) t34 fun t35=>
al (some false) (some 1) t35 h fun t36 _=>
(ba t36=false)/\bK t36 fun t38=>
ah Pg .eql 3 true t38 (.sc (.int .i64 4096)) fun t39=>
n5 W R N E P x0 x2 x4 t39 h
def n7:N4:=fun W R N E P x0 x2 x4 x9 h=>
aH x9 (
R [] h) (
n6 W R N E P x0 x2 x4 h)
def n8:N3:=fun W R N E P x0 x2 x4 h=>
aP x0 fun t40=>
ai (some 6) t40 fun t41=>
al (some false) (some 1) t41 h fun t42 _=>
n7 W R N E P x0 x2 x4 t42 h
def n9:N3:=fun W R N E P x0 x1 x2 h=>
eI 7 49 x1 h fun t44 qH=>
n8 W R N E P x0 x2 t44 qH
theorem aM{x0 x1 x2:AV}{h:AH}{M:WK}{R:RK}(hp:n9 (fun id=>M id\/h.next<=id) (aJ Pg [] R) (aJ Pg [] R) (fun _ _ _=>False) (fun v h=>R (.cg v) h) x0 x1 x2 h):aE Pg 34 [x0,x1,x2] h M R:=
 fin (n:=46) (pl:=[(5,⟨[(none,(fr 0 11))],false,[],[]⟩)]) (rs:=[]) (L:=rs) (fun c=>(a3 n9 0 1 2 c)) Try.mixed Try.func34 (fun c=>
(sq (a3 n9 0 1 2 c)
(sn
(sn
(sq (a3 n2 0 2 4 c)
(sm (a2 n1 0 2 c)))
(sq (a3 n6 0 2 4 c)
(cd (a4 n5 0 2 4 15 c) (sq (a2 n4 0 2 c)
(sl (a2 n3 0 2 c))) tr)))
(sq (a3 n8 0 2 4 c)
(cd (a4 n7 0 2 4 9 c) tr tr))))) hp
attribute [simp] n1 n2 n3 n4 n5 n6 n7 n8 n9
end vZ
namespace fp
abbrev rs:List Nat:=[]
def n1:N7:=fun _ _ N _ _ x0 x3 x4 x6 x8 ax aY h=>
aP x0 fun t1=>
ai (some 0) t1 fun t2=>
al (some false) (some 1) t2 h fun t3 _=>
br (some (6,none)) t3 aY fun t5=>
ai (some 4) t5 fun t6=>
al (some false) (some 1) t6 h fun t7 _=>
ah Pg .add 3 true (.sc (.int .i64 1)) t7 fun t9=>
ah Pg .add 3 false aY t9 fun t10=>
N [x0,x3,x4,x6,x8,ax,t10] h
def n2:N9:=fun _ _ N _ _ x0 x3 x4 x6 x8 ax aY aL bI h=>
ah Pg .add 3 true bI (.sc (.int .i64 1)) fun t11=>
N [x0,x3,x4,x6,x8,ax,aY,aL,t11] h
def n3:km:=fun W R N E P x0 x3 x4 x6 x8 ax aY aL bI rr h=>
aH rr (
E 4 [x0,x3,x4,x6,x8,ax,aY] h) (
n2 W R N E P x0 x3 x4 x6 x8 ax aY aL bI h)
def n4:km:=fun W R N E P x0 x3 x4 x6 x8 ax aY aL bI dt h=>
aP x0 fun t12=>
ai (some 7) t12 fun t13=>
al (some false) (some 1) t13 h fun t14 _=>
(ba t14=false)/\bK t14 fun t16=>
ah Pg .eql 3 false t16 dt fun t17=>
n3 W R N E P x0 x3 x4 x6 x8 ax aY aL bI t17 h
def n5:km:=fun W R N E P x0 x3 x4 x6 x8 ax aY aL bI dt h=>
al (some true) (some 7) x8 h fun t18 _=>
ah Pg .add 3 true aY (.sc (.int .i64 1)) fun t20=>
ah Pg .add 3 true aY (.sc (.int .i64 1)) fun t21=>
ai (some 4) aL fun t22=>
al (some false) (some 1) t22 h fun t23 _=>
ah Pg .add 3 false t21 t23 fun t25=>
al (some true) (some 7) ax h fun t26 _=>
aC Pg W 55 [x0,t18,t20,t25,x4,t26,x6] h (fun t28 HA=>
n4 W R N E P x0 x3 x4 x6 x8 ax aY aL bI dt HA) P
def n6:N9:=fun W R N E P x0 x3 x4 x6 x8 ax aY aL bI h=>
aP x0 fun t30=>
ai (some 7) t30 fun t31=>
al (some false) (some 1) t31 h fun t32 _=>
(ba t32=false)/\bK t32 fun t34=>
n5 W R N E P x0 x3 x4 x6 x8 ax aY aL bI t34 h
def n7:km:=fun W R N E P x0 x3 x4 x6 x8 ax aY aL bI Js h=>
aH Js (
n6 W R N E P x0 x3 x4 x6 x8 ax aY aL bI h) (
E 4 [x0,x3,x4,x6,x8,ax,aY] h)
def n8:qN:=fun W R N E P x0 x3 x4 x6 x8 ax aY aL bI rp v7 h=>
aV rp v7 (.sc (.bool false)) fun t35=>
n7 W R N E P x0 x3 x4 x6 x8 ax aY aL bI t35 h
def n9:km:=fun W R N E P x0 x3 x4 x6 x8 ax aY aL bI rp h=>
bF true rp (
aP x0 fun t36=>
ai (some 6) t36 fun t37=>
al (some false) (some 1) t37 h fun t38 _=>
im .not t38 fun t40=>
n8 W R N E P x0 x3 x4 x6 x8 ax aY aL bI rp t40 h) (
n8 W R N E P x0 x3 x4 x6 x8 ax aY aL bI rp aa h)
def aQ:N9:=fun W R N E P x0 x3 x4 x6 x8 ax aY aL bI h=>
ai (some 3) aL fun t41=>
al (some false) (some 1) t41 h fun t42 _=>
ah Pg .lss 3 false bI t42 fun t44=>
n9 W R N E P x0 x3 x4 x6 x8 ax aY aL bI t44 h
def fY:GK:=fun W R N E P N' vs h=>aQ W R N' (fun(i:Nat) (vs:List AV) (h:AH)=>if i=4 then n1 W R N E P (vs.getD 0 aa) (vs.getD 1 aa) (vs.getD 2 aa) (vs.getD 3 aa) (vs.getD 4 aa) (vs.getD 5 aa) (vs.getD 6 aa) h else if i=1 then n1 W R N E P (vs.getD 0 aa) (vs.getD 1 aa) (vs.getD 2 aa) (vs.getD 3 aa) (vs.getD 4 aa) (vs.getD 5 aa) (vs.getD 6 aa) h else E i vs h) P (vs.getD 0 aa) (vs.getD 1 aa) (vs.getD 2 aa) (vs.getD 3 aa) (vs.getD 4 aa) (vs.getD 5 aa) (vs.getD 6 aa) (vs.getD 7 aa) (vs.getD 8 aa) h
def a_:N9:=fun W R N E P x0 x3 x4 x6 x8 ax aY aL bI h=>
cY (fY W R N E P) [x0,x3,x4,x6,x8,ax,aY,aL,bI] h
def bc:N8:=fun W R N E P x0 x3 x4 x6 x8 ax aY aL h=>
a_ W R N E P x0 x3 x4 x6 x8 ax aY aL (.sc (.int .i64 0)) h
def bt:N9:=fun W R N E P x0 x3 x4 x6 x8 ax aY aL cW h=>
ai (some 1) aL fun t45=>
al (some false) (some 1) t45 h fun t46 _=>
al (some true) (some 7) ax h fun t48 _=>
aC Pg W 33 [x0,t46,cW,t48,x6] h (fun t50 yT=>
n1 W R N E P x0 x3 x4 x6 x8 ax aY yT) P
def bD:km:=fun _ _ N _ _ x0 x3 x4 x6 x8 ax aY aL cW cV h=>
ah Pg .add 3 true cV (.sc (.int .i64 1)) fun t52=>
N [x0,x3,x4,x6,x8,ax,aY,aL,cW,t52] h
def bC:km:=fun W R N E P x0 x3 x4 x6 x8 ax aY aL cW cV h=>
ai (some 1) x8 fun t53=>
al (some false) (some 1) t53 h fun t54 _=>
ai (some 2) aL fun t56=>
al (some false) (some 1) t56 h fun t57 _=>
br (some (2,none)) t57 cV fun t59=>
ai (some 0) t59 fun t60=>
al (some false) (some 1) t60 h fun t61 _=>
aC Pg oY 82 [t54,t61] h (fun t63 yS=>
br (some (1,none)) x4 t63 fun t65=>
al (some false) (some 1) t65 yS fun t66 _=>
dX (some (1,3,[.int .i64 0])) 1 [(0,t66)] yS fun t68 FF=>
fu (some (1,8,3)) cW t68 FF W fun t70 h71=>
bD W R N E P x0 x3 x4 x6 x8 ax aY aL t70 cV h71) P
def bz:qN:=fun W R N E P x0 x3 x4 x6 x8 ax aY aL cW cV tI h=>
aH tI (
bC W R N E P x0 x3 x4 x6 x8 ax aY aL cW cV h) (
E 2 [x0,x3,x4,x6,x8,ax,aY,aL,cW] h)
def bH:km:=fun W R N E P x0 x3 x4 x6 x8 ax aY aL cW cV h=>
ai (some 2) aL fun t72=>
al (some false) (some 1) t72 h fun t73 _=>
(ba t73=false)/\bK t73 fun t75=>
ah Pg .lss 3 false cV t75 fun t76=>
bz W R N E P x0 x3 x4 x6 x8 ax aY aL cW cV t76 h
def kV:GK:=fun W R N E P N' vs h=>bH W R N' (fun(i:Nat) (vs:List AV) (h:AH)=>if i=2 then bt W R N E P (vs.getD 0 aa) (vs.getD 1 aa) (vs.getD 2 aa) (vs.getD 3 aa) (vs.getD 4 aa) (vs.getD 5 aa) (vs.getD 6 aa) (vs.getD 7 aa) (vs.getD 8 aa) h else if i=1 then n1 W R N E P (vs.getD 0 aa) (vs.getD 1 aa) (vs.getD 2 aa) (vs.getD 3 aa) (vs.getD 4 aa) (vs.getD 5 aa) (vs.getD 6 aa) h else E i vs h) P (vs.getD 0 aa) (vs.getD 1 aa) (vs.getD 2 aa) (vs.getD 3 aa) (vs.getD 4 aa) (vs.getD 5 aa) (vs.getD 6 aa) (vs.getD 7 aa) (vs.getD 8 aa) (vs.getD 9 aa) h
def bO:km:=fun W R N E P x0 x3 x4 x6 x8 ax aY aL cW cV h=>
cY (kV W R N E P) [x0,x3,x4,x6,x8,ax,aY,aL,cW,cV] h
def bQ:N9:=fun W R N E P x0 x3 x4 x6 x8 ax aY aL cW h=>
bO W R N E P x0 x3 x4 x6 x8 ax aY aL cW (.sc (.int .i64 0)) h
def b_:N8:=fun W R N E P x0 x3 x4 x6 x8 ax aY aL h=>
ai (some 2) aL fun t77=>
al (some false) (some 1) t77 h fun t78 _=>
(ba t78=false)/\bK t78 fun t80=>
zc (some (1,8,3,[.int .i64 0])) (.sc (.int .i64 0)) t80 h fun t81 w9=>
bQ W R N E P x0 x3 x4 x6 x8 ax aY aL t81 w9
def cp:N9:=fun W R N E P x0 x3 x4 x6 x8 ax aY aL ot h=>
aH ot (
b_ W R N E P x0 x3 x4 x6 x8 ax aY aL h) (
bc W R N E P x0 x3 x4 x6 x8 ax aY aL h)
def bW:N8:=fun W R N E P x0 x3 x4 x6 x8 ax aY aL h=>
ai (some 0) aL fun t83=>
al (some false) (some 1) t83 h fun t84 _=>
ah Pg .eql 9 true t84 (.sc (.string ⟨#[117,115,101]⟩)) fun t86=>
cp W R N E P x0 x3 x4 x6 x8 ax aY aL t86 h
def cb:N7:=fun W R N E P x0 x3 x4 x6 x8 ax aY h=>
aP x0 fun t87=>
ai (some 0) t87 fun t88=>
al (some false) (some 1) t88 h fun t89 _=>
br (some (6,none)) t89 aY fun t91=>
al (some true) (some 6) t91 h fun t92 _=>
bw (some [.string ⟨#[]⟩,.string ⟨#[]⟩,.slice none 0 0,.int .i64 0,.int .i64 0,.int .i64 0]) 6 42 h fun t94 Vb=>
aG (some 6) t94 t92 Vb W fun Fy=>
bW W R N E P x0 x3 x4 x6 x8 ax aY t94 Fy
def cn:N8:=fun W R N E P x0 x3 x4 x6 x8 ax aY tJ h=>
aH tJ (
cb W R N E P x0 x3 x4 x6 x8 ax aY h) (
E 0 [] h)
def cj:N9:=fun W R N E P x0 x3 x4 x6 x8 ax aY je pS h=>
aV je pS (.sc (.bool false)) fun t97=>
cn W R N E P x0 x3 x4 x6 x8 ax aY t97 h
def cl:N8:=fun W R N E P x0 x3 x4 x6 x8 ax aY je h=>
bF true je (
aP x0 fun t98=>
ai (some 6) t98 fun t99=>
al (some false) (some 1) t99 h fun t100 _=>
im .not t100 fun t102=>
cj W R N E P x0 x3 x4 x6 x8 ax aY je t102 h) (
cj W R N E P x0 x3 x4 x6 x8 ax aY je aa h)
def bV:N7:=fun W R N E P x0 x3 x4 x6 x8 ax aY h=>
ah Pg .lss 3 false aY x3 fun t103=>
cl W R N E P x0 x3 x4 x6 x8 ax aY t103 h
def cB:GK:=fun W R N E P N' vs h=>bV W R N' (fun(i:Nat) (vs:List AV) (h:AH)=>if i=0 then N vs h else E i vs h) P (vs.getD 0 aa) (vs.getD 1 aa) (vs.getD 2 aa) (vs.getD 3 aa) (vs.getD 4 aa) (vs.getD 5 aa) (vs.getD 6 aa) h
def cy:N7:=fun W R N E P x0 x3 x4 x6 x8 ax aY h=>
cY (cB W R N E P) [x0,x3,x4,x6,x8,ax,aY] h
def cz:N7:=fun W R N E P x0 x2 x3 x4 x6 x8 ax h=>
cy W R N E P x0 x3 x4 x6 x8 ax x2 h
def cK:N7:=fun W R N E P x0 x1 x2 x3 x4 x5 x6 h=>
eI 7 78 x1 h fun t104 abN=>
eI 7 49 x5 abN fun t106 FP=>
cz W R N E P x0 x2 x3 x4 x6 t104 t106 FP
theorem aM{x0 x1 x2 x3 x4 x5 x6:AV}{h:AH}{M:WK}{R:RK}(hp:cK (fun id=>M id\/h.next<=id) (aJ Pg [] R) (aJ Pg [] R) (fun _ _ _=>False) (fun v h=>R (.cg v) h) x0 x1 x2 x3 x4 x5 x6 h):aE Pg 55 [x0,x1,x2,x3,x4,x5,x6] h M R:=
 fin (n:=123) (pl:=[(2,⟨[(none,(fr 0 4)),(some (3,true),(fr 4 5)),(none,(fr 9 1))],false,[],[]⟩),(10,⟨[(none,(fr 0 16))],false,[],[10]⟩),(13,⟨[(none,(fr 0 5)),(some (4,true),(fr 5 5)),(none,(fr 10 1))],false,[],[]⟩)]) (rs:=[]) (L:=rs) (fun c=>(a7 cK 0 1 2 3 4 5 6 c)) Try.mixed Try.func55 (fun c=>
(sq (a7 cK 0 1 2 3 4 5 6 c)
(sq (a7 cz 0 2 3 4 6 8 12 c)
(bk 0 (lp [0,3,4,6,8,12,14] rs [(0,[])] (a7 cy 0 3 4 6 8 12 14 c) cB (fun i vs h=>if i=0 then c.N vs h else c.E i vs h) (.b .o) fun c=>
(sn
(sn
(sm (a7 n1 0 3 4 6 8 12 14 c))
(bk 1 (sq (a7 cb 0 3 4 6 8 12 14 c)
(sn
(sq (a8 bc 0 3 4 6 8 12 14 15 c)
(bk 4 (lp [0,3,4,6,8,12,14,15,18] rs [(4,[0,3,4,6,8,12,14]),(1,[0,3,4,6,8,12,14]),(0,[])] (a9 a_ 0 3 4 6 8 12 14 15 18 c) fY (fun i vs h=>if i=4 then n1 c.W c.R c.N c.E c.P (vs.getD 0 aa) (vs.getD 1 aa) (vs.getD 2 aa) (vs.getD 3 aa) (vs.getD 4 aa) (vs.getD 5 aa) (vs.getD 6 aa) h else if i=1 then n1 c.W c.R c.N c.E c.P (vs.getD 0 aa) (vs.getD 1 aa) (vs.getD 2 aa) (vs.getD 3 aa) (vs.getD 4 aa) (vs.getD 5 aa) (vs.getD 6 aa) h else c.E i vs h) (.b (.b (.t .o))) fun c=>
(sn
(sn
(sm (a9 n2 0 3 4 6 8 12 14 15 18 c))
(bk 5 (sq (a9 n6 0 3 4 6 8 12 14 15 18 c)
(sq (kE n5 0 3 4 6 8 12 14 15 18 19 c)
(sq (kE n4 0 3 4 6 8 12 14 15 18 19 c)
(cd (kE n3 0 3 4 6 8 12 14 15 18 122 c) tr tr))))))
(sn
(cd (kE n7 0 3 4 6 8 12 14 15 18 95 c) tr tr)
(gr (gn (a9 aQ 0 3 4 6 8 12 14 15 18 c) (gx (kE n9 0 3 4 6 8 12 14 15 18 89 c) (gl (rW n8 0 3 4 6 8 12 14 15 18 89 94 c))))))))))
(sq (a8 bW 0 3 4 6 8 12 14 15 c)
(cd (a9 cp 0 3 4 6 8 12 14 15 51 c) (sq (a8 b_ 0 3 4 6 8 12 14 15 c)
(sn
(sl (a9 bt 0 3 4 6 8 12 14 15 16 c))
(sq (a9 bQ 0 3 4 6 8 12 14 15 16 c)
(bk 2 (lp [0,3,4,6,8,12,14,15,16,17] rs [(2,[0,3,4,6,8,12,14,15,16]),(1,[0,3,4,6,8,12,14]),(0,[])] (kE bO 0 3 4 6 8 12 14 15 16 17 c) kV (fun i vs h=>if i=2 then bt c.W c.R c.N c.E c.P (vs.getD 0 aa) (vs.getD 1 aa) (vs.getD 2 aa) (vs.getD 3 aa) (vs.getD 4 aa) (vs.getD 5 aa) (vs.getD 6 aa) (vs.getD 7 aa) (vs.getD 8 aa) h else if i=1 then n1 c.W c.R c.N c.E c.P (vs.getD 0 aa) (vs.getD 1 aa) (vs.getD 2 aa) (vs.getD 3 aa) (vs.getD 4 aa) (vs.getD 5 aa) (vs.getD 6 aa) h else c.E i vs h) (.b (.t (.t (.b (.t .o))))) fun c=>
(sn
(sn
(sm (kE bD 0 3 4 6 8 12 14 15 16 17 c))
(bk 3 (gr (gl (kE bC 0 3 4 6 8 12 14 15 16 17 c)))))
(sq (kE bH 0 3 4 6 8 12 14 15 16 17 c)
(cd (rW bz 0 3 4 6 8 12 14 15 16 17 60 c) tr tr)))))))) tr))))))
(sn
(cd (a8 cn 0 3 4 6 8 12 14 30 c) tr tr)
(gr (gn (a7 bV 0 3 4 6 8 12 14 c) (gx (a8 cl 0 3 4 6 8 12 14 24 c) (gl (a9 cj 0 3 4 6 8 12 14 24 29 c)))))))))))) hp
attribute [simp] n1 n2 n3 n4 n5 n6 n7 n8 n9 aQ bc bt bD bC bz bH bQ b_ cp bW cb cn cj cl bV cz cK
end fp
namespace LV
abbrev rs:List Nat:=[6]
def n1:N1:=fun _ R _ _ _ x6 h=>
R [x6] h
def n2:N2:=fun W R N E P x2 x4 h=>
∃Hd:Nat->Nat,(∀i∈[9],h.obj (Hd i)≠none)/\(
ai (some 0) x4 fun t1=>
al (some false) (some 1) t1 h fun t2 _=>
ai (some 1) x4 fun t4=>
al (some false) (some 1) t4 h fun t5 i6=>
(i6=Hd 9)/\(
aC Pg (h_ W Hd [9]) 35 [x2,t2] h (fun t7 h8=>
br (some (3,none)) x2 t7 fun t9=>
ai (some 1) t9 fun t10=>
al (some false) (some 1) t10 h8 fun t11 _=>
ah Pg .add 3 false t11 t5 fun t13=>
n1 W R N E P t13 h8) P))
def n3:N2:=fun W R N E P x1 x2 h=>
eI 2 44 x1 h fun t14 vR=>
n2 W R N E P x2 t14 vR
theorem aM{x0 x1 x2:AV}{h:AH}{M:WK}{R:RK}(hp:n3 (fun id=>M id\/h.next<=id) (aJ Pg [.tmp 6] R) (aJ Pg [.tmp 6] R) (fun _ _ _=>False) (fun v h=>R (.cg v) h) x1 x2 h):aE Pg 32 [x0,x1,x2] h M R:=
 fin (n:=18) (pl:=[(1,⟨[(none,[(0,false),(1,false),(2,false),(3,false),(8,false),(9,true),(4,false),(5,false),(6,false),(7,false),(10,false),(11,false)])],true,[],[]⟩)]) (rs:=[.tmp 6]) (L:=rs) (fun c=>(a2 n3 1 2 c)) Try.mixed Try.func32 (fun c=>
(sq (a2 n3 1 2 c)
(sn
(sm (a1 n1 6 c))
(sm (a2 n2 2 4 c))))) hp
attribute [simp] n1 n2 n3
end LV
namespace si
abbrev rs:List Nat:=[]
def n1:N6:=fun W _ N _ P x0 x2 x4 x8 ap Jv h=>
aH Jv (
al (some true) (some 7) ap h fun t1 _=>
ai (some 2) ap fun t3=>
al (some false) (some 1) t3 h fun t4 _=>
ai (some 3) ap fun t6=>
al (some false) (some 1) t6 h fun t7 _=>
al (some true) (some 7) x8 h fun t9 _=>
aC Pg W 55 [x0,t1,t4,t7,x2,t9,x4] h (fun t11 vS=>
N [] vS) P) (
N [] h)
def n2:N5:=fun W R N E P x0 x2 x4 x8 ap h=>
ai (some 5) ap fun t13=>
al (some false) (some 1) t13 h fun t14 _=>
ah Pg .gtr 3 true t14 (.sc (.int .i64 0)) fun t16=>
n1 W R N E P x0 x2 x4 x8 ap t16 h
def n3:N5:=fun W R N E P x0 x1 x2 x4 x8 h=>
∃Hd:Nat->Nat,(∀i∈[3],h.obj (Hd i)≠none)/\(
aP x0 fun t17=>
ai (some 3) t17 fun t18=>
al (some false) (some 1) t18 h fun t19 i20=>
(i20=Hd 3)/\(
(
aC Pg (h_ W Hd [3]) 53 [x0,x1] h (fun t21 uf=>
br (some (7,none)) t19 t21 fun t23=>
al (some true) (some 7) t23 uf fun t24 _=>
bw (some [.string ⟨#[]⟩,.slice none 0 0,.int .i64 0,.int .i64 0,.int .i64 0,.int .i64 0,.bool false]) 7 78 uf fun t26 vO=>
aG (some 7) t26 t24 vO W fun qI=>
n2 W R N E P x0 x2 x4 x8 t26 qI) P)/\(
bw (some [.string ⟨#[]⟩,.slice none 0 0,.int .i64 0,.int .i64 0,.int .i64 0,.int .i64 0,.bool false]) 7 78 h fun t29 Dx=>
aC Pg (h_ W Hd [3]) 53 [x0,x1] Dx (fun t31 vN=>
br (some (7,none)) t19 t31 fun t33=>
al (some true) (some 7) t33 vN fun t34 _=>
aG (some 7) t29 t34 vN W fun vM=>
n2 W R N E P x0 x2 x4 x8 t29 vM) P)/\True))
def n4:N3:=fun W R _ _ P x0 x4 x8 h=>
al (some true) (some 7) x8 h fun t37 _=>
aC Pg W 34 [x0,t37,x4] h (fun t39 Dv=>
R [] Dv) P
def n5:N4:=fun W R N E P x0 x2 x4 x8 h=>
ai (some 2) x8 fun t41=>
aG (some 1) t41 x2 h W fun Hx=>
n4 W R N E P x0 x4 x8 Hx
def n6:N5:=fun W R N E P x0 x1 x2 x4 x8 h=>
ai (some 1) x8 fun t43=>
aG (some 1) t43 x1 h W fun yW=>
n5 W R N E P x0 x2 x4 x8 yW
def n7:N5:=fun W R N E P x0 x1 x2 x4 x8 h=>
ai (some 0) x8 fun t45=>
aG (some 1) t45 (.sc (.int .i64 1)) h W fun Du=>
n6 W R N E P x0 x1 x2 x4 x8 Du
def n8:N6:=fun W R N E P x0 x1 x2 x4 x8 bg h=>
aH bg (
n7 W R N E P x0 x1 x2 x4 x8 h) (
n3 W R N E P x0 x1 x2 x4 x8 h)
def n9:N5:=fun W R N E P x0 x1 x2 x4 x8 h=>
aC Pg W 54 [x1] h (fun t47 qG=>
ah Pg .gtr 3 true t47 (.sc (.int .i64 0)) fun t49=>
n8 W R N E P x0 x1 x2 x4 x8 t49 qG) P
def aQ:N5:=fun W R N E P x0 x1 x2 x3 x4 h=>
eI 7 49 x3 h fun t50 yT=>
n9 W R N E P x0 x1 x2 x4 t50 yT
theorem aM{x0 x1 x2 x3 x4:AV}{h:AH}{M:WK}{R:RK}(hp:aQ (fun id=>M id\/h.next<=id) (aJ Pg [] R) (aJ Pg [] R) (fun _ _ _=>False) (fun v h=>R (.cg v) h) x0 x1 x2 x3 x4 h):aE Pg 33 [x0,x1,x2,x3,x4] h M R:=
 fin (n:=45) (pl:=[(6,⟨[(none,[(0,false),(1,false),(2,false),(3,true),(4,false),(5,false)])],true,[.mk (fr 6 5) [],.mk [(9,false),(6,false),(7,false),(8,false),(10,false)] []],[]⟩)]) (rs:=[]) (L:=rs) (fun c=>(a5 aQ 0 1 2 3 4 c)) Try.mixed Try.func33 (fun c=>
(sq (a5 aQ 0 1 2 3 4 c)
(sn
(sn
(sq (a5 n2 0 2 4 8 10 c)
(cd (a6 n1 0 2 4 8 10 34 c) tr tr))
(sm (a5 n3 0 1 2 4 8 c)))
(sq (a5 n9 0 1 2 4 8 c)
(cd (a6 n8 0 1 2 4 8 13 c) (sq (a5 n7 0 1 2 4 8 c)
(sq (a5 n6 0 1 2 4 8 c)
(sq (a4 n5 0 2 4 8 c)
(sl (a3 n4 0 4 8 c))))) tr))))) hp
attribute [simp] n1 n2 n3 n4 n5 n6 n7 n8 n9 aQ
end si
end
end Go.Proofs.Ytjehibknlmehmaa
