/- Bodies of the document's answer; printed. No condition. -/
import Derived.Test.YtjehibknlmehmaaGreatGl
set_option maxRecDepth 100000
namespace Go.Proofs.YtjehibknlmehmaaGreat
section
open Go.Ab
namespace F9
abbrev rs:List Nat:=[2,3,4]
def n1:N2:=fun W R _ _ _ x2 x6 h=>
ao (some true) (some 3) x6 h fun t1 _=>
aD (some 3) x2 t1 h W fun h3=>
R [x2,(.sc (.int .i64 0)),(.sc (.int .i64 0))] h3
def n2:N3:=fun _ R _ _ _ x2 x3 x4 h=>
R [x2,x3,x4] h
def n3:N4:=fun W R N E P x2 x5 x7 x8 h=>
∃Hd:Nat->Nat,(∀i∈[4,7],h.obj (Hd i)≠none)/\(
cN (some ([.int .i64 0,.int .i64 0,.slice none 0 0],.inl [(0,1),(1,1),(2,1)])) [] fun t4=>
aH x5 fun t5=>
ah (some 8) t5 fun t6=>
ao (some false) (some 1) t6 h fun t7 i8=>
(i8=Hd 4)/\(
bB (some (1,none)) t7 x7 fun t9=>
ao (some false) (some 1) t9 h fun t10 i11=>
(i11=Hd 7)/\(
aD (some 3) x2 t4 h (iZ W Hd [4,7]) fun rX=>
n2 W R N E P x2 t10 x8 rX)))
def n4:N6:=fun W R N E P x2 x5 x6 x7 x8 qT h=>
aF qT (
n3 W R N E P x2 x5 x7 x8 h) (
n1 W R N E P x2 x6 h)
def n5:N5:=fun W R N E P x2 x5 x6 x7 x8 h=>
ai Pg .neq 3 true x8 (.sc (.int .i64 0)) fun t13=>
n4 W R N E P x2 x5 x6 x7 x8 t13 h
def n6:N3:=fun W R N E P x2 x5 x6 h=>
ao (some true) (some 3) x6 h fun t14 _=>
aq Pg W 18 [t14] h (fun t16 nR=>
cW t16 0 fun t18=>
cW t16 1 fun t19=>
n5 W R N E P x2 x5 x6 t18 t19 nR) P
def n7:N2:=fun W R N E P x2 x5 h=>
aH x5 fun t20=>
ah (some 1) t20 fun t21=>
ao (some false) (some 1) t21 h fun t22 _=>
aH x5 fun t24=>
ah (some 2) t24 fun t25=>
ao (some false) (some 1) t25 h fun t26 _=>
aH x5 fun t28=>
ah (some 7) t28 fun t29=>
ao (some false) (some 1) t29 h fun t30 _=>
(
aq Pg pT 17 [t22] h (fun t32 uZ=>
(
aq Pg pT 17 [t26] uZ (fun t34 kK=>
cN (some ([.int .i64 0,.int .i64 0,.slice none 0 0],.inl [(0,1),(1,1),(2,1)])) [(0,t32),(1,t34),(2,t30)] fun t36=>
bx (some [.int .i64 0,.int .i64 0,.slice none 0 0]) 3 25 kK fun t37 zy=>
aD (some 3) t37 t36 zy W fun tW=>
n6 W R N E P x2 x5 t37 tW) P)/\(
bx (some [.int .i64 0,.int .i64 0,.slice none 0 0]) 3 25 uZ fun t40 wM=>
aq Pg pT 17 [t26] wM (fun t42 QQ=>
cN (some ([.int .i64 0,.int .i64 0,.slice none 0 0],.inl [(0,1),(1,1),(2,1)])) [(0,t32),(1,t42),(2,t30)] fun t44=>
aD (some 3) t40 t44 QQ W fun rS=>
n6 W R N E P x2 x5 t40 rS) P)/\True) P)/\(
bx (some [.int .i64 0,.int .i64 0,.slice none 0 0]) 3 25 h fun t46 wK=>
aq Pg pT 17 [t22] wK (fun t48 wJ=>
aq Pg pT 17 [t26] wJ (fun t50 sS=>
cN (some ([.int .i64 0,.int .i64 0,.slice none 0 0],.inl [(0,1),(1,1),(2,1)])) [(0,t48),(1,t50),(2,t30)] fun t52=>
aD (some 3) t46 t52 sS W fun tU=>
n6 W R N E P x2 x5 t46 tU) P) P)/\True
def n8:N3:=fun _ R _ _ _ x2 x3 x4 h=>
R [x2,x3,x4] h
def n9:N2:=fun W R N E P x2 x5 h=>
∃Hd:Nat->Nat,(∀i∈[4,8],h.obj (Hd i)≠none)/\(
cN (some ([.int .i64 0,.int .i64 0,.slice none 0 0],.inl [(0,1),(1,1),(2,1)])) [] fun t54=>
aH x5 fun t55=>
ah (some 4) t55 fun t56=>
ao (some false) (some 1) t56 h fun t57 i58=>
(i58=Hd 4)/\(
aH x5 fun t59=>
ah (some 5) t59 fun t60=>
ao (some false) (some 1) t60 h fun t61 i62=>
(i62=Hd 8)/\(
aD (some 3) x2 t54 h (iZ W Hd [4,8]) fun Gk=>
n8 W R N E P x2 t57 t61 Gk)))
def aS:N3:=fun W R N E P x2 x5 iM h=>
aF iM (
n9 W R N E P x2 x5 h) (
n7 W R N E P x2 x5 h)
def bj:N2:=fun W R N E P x2 x5 h=>
aH x5 fun t64=>
ah (some 6) t64 fun t65=>
ao (some false) (some 1) t65 h fun t66 _=>
aS W R N E P x2 x5 t66 h
def a_:N3:=fun W R N E P x0 x2 x5 h=>
(aY x0=false)/\bL x0 fun t68=>
aq Pg W 16 [x5,(.sc (.int .i64 0)),t68,(.sc (.int .u64 0)),(.sc (.int .u64 0))] h (fun t69 xX=>
bj W R N E P x2 x5 xX) P
def bH:N3:=fun _ R _ _ _ x2 x3 x4 h=>
R [x2,x3,x4] h
def bP:N2:=fun W R N E P x2 x5 h=>
∃Hd:Nat->Nat,(∀i∈[4,8],h.obj (Hd i)≠none)/\(
cN (some ([.int .i64 0,.int .i64 0,.slice none 0 0],.inl [(0,1),(1,1),(2,1)])) [] fun t71=>
aH x5 fun t72=>
ah (some 4) t72 fun t73=>
ao (some false) (some 1) t73 h fun t74 i75=>
(i75=Hd 4)/\(
aH x5 fun t76=>
ah (some 5) t76 fun t77=>
ao (some false) (some 1) t77 h fun t78 i79=>
(i79=Hd 8)/\(
aD (some 3) x2 t71 h (iZ W Hd [4,8]) fun xW=>
bH W R N E P x2 t74 t78 xW)))
def bV:N4:=fun W R N E P x0 x2 x5 du h=>
aF du (
bP W R N E P x2 x5 h) (
a_ W R N E P x0 x2 x5 h)
def bR:N3:=fun W R N E P x0 x2 x5 h=>
(aY x0=false)/\bL x0 fun t81=>
aq Pg W 15 [x5,(.sc (.int .i64 0)),t81,(.sc (.int .i64 0)),(.sc (.int .i64 (-1)))] h (fun t82 LF=>
iH .not t82 fun t84=>
bV W R N E P x0 x2 x5 t84 LF) P
def b5:N2:=fun W R N E P x0 x2 h=>
cN (some ([.slice none 0 0,.slice none 0 0,.slice none 0 0,.slice none 0 0,.int .i64 0,.int .i64 0,.bool false,.slice none 0 0,.slice none 0 0],.inl [(0,1),(1,1),(2,1),(3,1),(4,1),(5,1),(6,1),(7,1),(8,1)])) [(0,x0)] fun t85=>
eR 9 56 t85 h fun t86 Ca=>
bR W R N E P x0 x2 t86 Ca
def ck:N1:=fun W R N E P x0 h=>
bx (some [.int .i64 0,.int .i64 0,.slice none 0 0]) 3 25 h fun t88 LB=>
b5 W R N E P x0 t88 LB
theorem aM{x0:AV}{h:AH}{M:WK}{R:RK}(hp:ck (fun id=>M id\/h.next<=id) (aJ Pg [.cell 2 25,.tmp 3,.tmp 4] R) (aJ Pg [.cell 2 25,.tmp 3,.tmp 4] R) (fun _ _ _=>False) (fun v h=>R (.bW v) h) x0 h):aA Pg 9 [x0] h M R:=
 fin (n:=75) (pl:=[(3,⟨[(none,[(0,false),(1,false),(2,false),(3,false),(4,true),(5,false),(6,false),(7,false),(8,true),(9,false),(10,false),(11,false)])],true,[],[]⟩),(6,⟨[(none,[(0,false),(1,false),(2,false),(3,false),(4,true),(5,false),(6,false),(7,false),(8,true),(9,false),(10,false),(11,false)])],true,[],[]⟩),(7,⟨[(none,[(0,false),(1,false),(2,false),(3,false),(5,false),(6,false),(7,false),(8,false),(10,false),(11,false),(12,false),(13,false)])],false,[.mk (fr 4 1) [.mk [(9,false),(14,false),(15,false),(16,false)] [],.mk [(15,false),(9,false),(14,false),(16,false)] []],.mk [(15,false),(4,false),(9,false),(14,false),(16,false)] []],[4,9]⟩),(10,⟨[(none,[(0,false),(1,false),(2,false),(3,false),(4,true),(5,false),(6,false),(7,true),(8,false),(9,false),(10,false),(11,false)])],true,[],[]⟩)]) (rs:=[.cell 2 25,.tmp 3,.tmp 4]) (L:=rs) (fun c=>(a1 ck 0 c)) Tryz.mixed Tryz.func9 (fun c=>
(sq (a1 ck 0 c)
(sq (a2 b5 0 2 c)
(sn
(sq (a3 a_ 0 2 5 c)
(sn
(sn
(sq (a3 n6 2 5 6 c)
(sn
(sl (a2 n1 2 6 c))
(sq (a5 n5 2 5 6 7 8 c)
(cd (a6 n4 2 5 6 7 8 64 c) (sn
(sm (a3 n2 2 3 4 c))
(sm (a4 n3 2 5 7 8 c))) tr))))
(sm (a2 n7 2 5 c)))
(sq (a2 bj 2 5 c)
(cd (a3 aS 2 5 33 c) (sn
(sm (a3 n8 2 3 4 c))
(sm (a2 n9 2 5 c))) tr))))
(sq (a3 bR 0 2 5 c)
(cd (a4 bV 0 2 5 16 c) (sn
(sm (a3 bH 2 3 4 c))
(sm (a2 bP 2 5 c))) tr)))))) hp
attribute [simp] n1 n2 n3 n4 n5 n6 n7 n8 n9 aS bj a_ bH bP bV bR b5 ck
end F9
namespace cz
abbrev rs:List Nat:=[10]
def n1:N0:=fun _ R _ _ _ h=>
R [(.sc (.bool true))] h
def n2:N5:=fun _ _ N _ _ x0 x2 x3 x4 aX h=>
N [x0,x2,x3,x4,aX] h
def n3:N7:=fun W R N E P x0 x2 x3 x4 ay aX bC h=>
∃Hd:Nat->Nat,(∀i∈[3],h.obj (Hd i)≠none)/\(
aH x0 fun t1=>
ah (some 3) t1 fun t2=>
ao (some false) (some 1) t2 h fun t3 i4=>
(i4=Hd 3)/\(
ai Pg .add 3 true ay (.sc (.int .i64 1)) fun t5=>
aq Pg (iZ W Hd [3]) 42 [x0,t5,aX] h (fun t6 h7=>
bB (some (7,none)) t3 bC fun t8=>
ah (some 5) t8 fun t9=>
aD (some 1) t9 t6 h7 W fun mP=>
n2 W R N E P x0 x2 x3 x4 aX mP) P))
def n4:N7:=fun W R N E P x0 x2 x3 x4 ay aX bC h=>
aH x0 fun t11=>
ah (some 3) t11 fun t12=>
ao (some false) (some 1) t12 h fun t13 _=>
bB (some (7,none)) t13 bC fun t15=>
ah (some 6) t15 fun t16=>
aD (some 1) t16 (.sc (.bool false)) h W fun nR=>
n3 W R N E P x0 x2 x3 x4 ay aX bC nR
def n5:N8:=fun W R N E P x0 x2 x3 x4 ay aX bC Zc h=>
aF Zc (
n4 W R N E P x0 x2 x3 x4 ay aX bC h) (
n2 W R N E P x0 x2 x3 x4 aX h)
def n6:N8:=fun W R N E P x0 x2 x3 x4 ay aG aX bC h=>
ah (some 0) aG fun t18=>
ao (some false) (some 1) t18 h fun t19 _=>
ai Pg .eql 9 true t19 (.sc (.string ⟨#[103,97,116,101]⟩)) fun t21=>
n5 W R N E P x0 x2 x3 x4 ay aX bC t21 h
def n7:N0:=fun _ R _ _ _ h=>
R [(.sc (.bool false))] h
def n8:N9:=fun W R N E P x0 x2 x3 x4 ay aG aX bC Ze h=>
aF Ze (
n7 W R N E P h) (
n6 W R N E P x0 x2 x3 x4 ay aG aX bC h)
def n9:ru:=fun W R N E P x0 x2 x3 x4 ay aG aX bC sC MF h=>
aO sC MF (.sc (.bool false)) fun t22=>
n8 W R N E P x0 x2 x3 x4 ay aG aX bC t22 h
def aS:N9:=fun W R N E P x0 x2 x3 x4 ay aG aX bC sC h=>
bw true sC (
ai Pg .add 3 true ay (.sc (.int .i64 1)) fun t23=>
ai Pg .add 3 true x3 (.sc (.int .i64 1)) fun t24=>
aq Pg W 15 [x0,t23,aX,t24,bC] h (fun t25 nP=>
iH .not t25 fun t27=>
n9 W R N E P x0 x2 x3 x4 ay aG aX bC sC t27 nP) P) (
n9 W R N E P x0 x2 x3 x4 ay aG aX bC sC ab h)
def bj:N8:=fun W R N E P x0 x2 x3 x4 ay aG aX bC h=>
ah (some 0) aG fun t28=>
ao (some false) (some 1) t28 h fun t29 _=>
aq Pg W 39 [t29] h (fun t31 wO=>
aS W R N E P x0 x2 x3 x4 ay aG aX bC t31 wO) P
def a_:N9:=fun W R N E P x0 x2 x3 x4 ay aG aX bC MJ h=>
aF MJ (
aH x0 fun t33=>
ah (some 3) t33 fun t34=>
ao (some false) (some 1) t34 h fun t35 _=>
(aY t35=false)/\bL t35 fun t37=>
ai Pg .sub 3 true t37 (.sc (.int .i64 1)) fun t38=>
bj W R N E P x0 x2 x3 x4 ay aG aX t38 h) (
bj W R N E P x0 x2 x3 x4 ay aG aX bC h)
def bH:N8:=fun W R N E P x0 x2 x3 x4 ay aG aX bC h=>
ah (some 0) aG fun t39=>
ao (some false) (some 1) t39 h fun t40 _=>
ai Pg .eql 9 true t40 (.sc (.string ⟨#[103,97,116,101]⟩)) fun t42=>
a_ W R N E P x0 x2 x3 x4 ay aG aX bC t42 h
def bP:N7:=fun W R N E P x0 x2 x3 x4 ay aG aX h=>
bH W R N E P x0 x2 x3 x4 ay aG aX x4 h
def bV:N6:=fun W R N E P x0 x2 x3 x4 ay aG h=>
ai Pg .add 3 true ay (.sc (.int .i64 1)) fun t43=>
ah (some 4) aG fun t44=>
ao (some false) (some 1) t44 h fun t45 _=>
ai Pg .add 3 false t43 t45 fun t47=>
bP W R N E P x0 x2 x3 x4 ay aG t47 h
def bR:N0:=fun _ R _ _ _ h=>
R [(.sc (.bool false))] h
def b5:N7:=fun W R N E P x0 x2 x3 x4 ay aG ML h=>
aF ML (
bR W R N E P h) (
bV W R N E P x0 x2 x3 x4 ay aG h)
def ck:N6:=fun W R N E P x0 x2 x3 x4 ay aG h=>
aq Pg W 41 [x0,ay,x4] h (fun t48 wJ=>
iH .not t48 fun t50=>
b5 W R N E P x0 x2 x3 x4 ay aG t50 wJ) P
def cp:N2:=fun W R _ _ P x0 ay h=>
aq Pg W 40 [x0,ay,(.sc (.int .i64 100))] h (fun t51 pb=>
R [t51] pb) P
def cP:N7:=fun W R N E P x0 x2 x3 x4 ay aG JS h=>
aF JS (
cp W R N E P x0 ay h) (
ck W R N E P x0 x2 x3 x4 ay aG h)
def cT:N8:=fun W R N E P x0 x2 x3 x4 ay aG l8 JT h=>
aO l8 (.sc (.bool true)) JT fun t53=>
cP W R N E P x0 x2 x3 x4 ay aG t53 h
def cw:N9:=fun W R N E P x0 x2 x3 x4 ay aG l8 EF Tb h=>
bw false l8 (
aO EF Tb (.sc (.bool false)) fun t54=>
cT W R N E P x0 x2 x3 x4 ay aG l8 t54 h) (
cT W R N E P x0 x2 x3 x4 ay aG l8 ab h)
def cL:N8:=fun W R N E P x0 x2 x3 x4 ay aG l8 EF h=>
bw true EF (
ah (some 0) aG fun t55=>
ao (some false) (some 1) t55 h fun t56 _=>
ai Pg .neq 9 true t56 (.sc (.string ⟨#[114,101,112,101,97,116]⟩)) fun t58=>
cw W R N E P x0 x2 x3 x4 ay aG l8 EF t58 h) (
cw W R N E P x0 x2 x3 x4 ay aG l8 EF ab h)
def cS:N9:=fun W R N E P x0 x2 x3 x4 ay aG l8 uE x88 h=>
bw false l8 (
aO uE x88 (.sc (.bool false)) fun t59=>
cL W R N E P x0 x2 x3 x4 ay aG l8 t59 h) (
cL W R N E P x0 x2 x3 x4 ay aG l8 ab h)
def cF:N8:=fun W R N E P x0 x2 x3 x4 ay aG l8 uE h=>
bw true uE (
ah (some 0) aG fun t60=>
ao (some false) (some 1) t60 h fun t61 _=>
ai Pg .neq 9 true t61 (.sc (.string ⟨#[117,115,101]⟩)) fun t63=>
cS W R N E P x0 x2 x3 x4 ay aG l8 uE t63 h) (
cS W R N E P x0 x2 x3 x4 ay aG l8 uE ab h)
def cC:N7:=fun W R N E P x0 x2 x3 x4 ay aG l8 h=>
bw false l8 (
ai Pg .geq 3 true x4 (.sc (.int .i64 0)) fun t64=>
cF W R N E P x0 x2 x3 x4 ay aG l8 t64 h) (
cF W R N E P x0 x2 x3 x4 ay aG l8 ab h)
def cB:N8:=fun W R N E P x0 x2 x3 x4 ay aG oQ nH h=>
aO oQ nH (.sc (.bool false)) fun t65=>
cC W R N E P x0 x2 x3 x4 ay aG t65 h
def c9:N8:=fun W R N E P x0 x2 x3 x4 ay aG bg oQ h=>
bw true oQ (
cB W R N E P x0 x2 x3 x4 ay aG oQ bg h) (
cB W R N E P x0 x2 x3 x4 ay aG oQ ab h)
def cU:N7:=fun W R N E P x0 x2 x3 x4 ay aG bg h=>
ai Pg .gtr 3 true x3 (.sc (.int .i64 0)) fun t66=>
c9 W R N E P x0 x2 x3 x4 ay aG bg t66 h
def dn:N8:=fun W R N E P x0 x2 x3 x4 ay aG sB x75 h=>
aO sB (.sc (.bool true)) x75 fun t67=>
cU W R N E P x0 x2 x3 x4 ay aG t67 h
def dS:N7:=fun W R N E P x0 x2 x3 x4 ay aG sB h=>
bw false sB (
ah (some 0) aG fun t68=>
ao (some false) (some 1) t68 h fun t69 _=>
ai Pg .eql 9 true t69 (.sc (.string ⟨#[103,97,116,101]⟩)) fun t71=>
dn W R N E P x0 x2 x3 x4 ay aG sB t71 h) (
dn W R N E P x0 x2 x3 x4 ay aG sB ab h)
def dZ:N8:=fun W R N E P x0 x2 x3 x4 ay aG gP EJ h=>
aO gP (.sc (.bool true)) EJ fun t72=>
dS W R N E P x0 x2 x3 x4 ay aG t72 h
def eC:N7:=fun W R N E P x0 x2 x3 x4 ay aG gP h=>
bw false gP (
ah (some 0) aG fun t73=>
ao (some false) (some 1) t73 h fun t74 _=>
ai Pg .eql 9 true t74 (.sc (.string ⟨#[98,105,116,115]⟩)) fun t76=>
dZ W R N E P x0 x2 x3 x4 ay aG gP t76 h) (
dZ W R N E P x0 x2 x3 x4 ay aG gP ab h)
def fl:N6:=fun W R N E P x0 x2 x3 x4 ay aG h=>
ah (some 0) aG fun t77=>
ao (some false) (some 1) t77 h fun t78 _=>
ai Pg .eql 9 true t78 (.sc (.string ⟨#[113,117,98,105,116,115]⟩)) fun t80=>
eC W R N E P x0 x2 x3 x4 ay aG t80 h
def fM:N2:=fun W R _ _ P x0 ay h=>
aq Pg W 40 [x0,ay,(.sc (.int .i64 102))] h (fun t81 xV=>
R [t81] xV) P
def fu:N7:=fun W R N E P x0 x2 x3 x4 ay aG uF h=>
aF uF (
fM W R N E P x0 ay h) (
fl W R N E P x0 x2 x3 x4 ay aG h)
def fD:N6:=fun W R N E P x0 x2 x3 x4 ay aG h=>
ai Pg .gtr 3 true x3 (.sc (.int .i64 32)) fun t83=>
fu W R N E P x0 x2 x3 x4 ay aG t83 h
def fL:N2:=fun W R _ _ P x0 ay h=>
aq Pg W 40 [x0,ay,(.sc (.int .i64 100))] h (fun t84 ri=>
R [t84] ri) P
def fk:N7:=fun W R N E P x0 x2 x3 x4 ay aG jN h=>
aF jN (
fL W R N E P x0 ay h) (
fD W R N E P x0 x2 x3 x4 ay aG h)
def fQ:N8:=fun W R N E P x0 x2 x3 x4 ay aG kh y6 h=>
aO kh (.sc (.bool true)) y6 fun t86=>
fk W R N E P x0 x2 x3 x4 ay aG t86 h
def e_:N7:=fun W R N E P x0 x2 x3 x4 ay aG kh h=>
bw false kh (
ah (some 4) aG fun t87=>
ao (some false) (some 1) t87 h fun t88 _=>
ai Pg .sub 3 false x2 ay fun t90=>
ai Pg .sub 3 true t90 (.sc (.int .i64 1)) fun t91=>
ai Pg .gtr 3 false t88 t91 fun t92=>
fQ W R N E P x0 x2 x3 x4 ay aG kh t92 h) (
fQ W R N E P x0 x2 x3 x4 ay aG kh ab h)
def gf:N8:=fun W R N E P x0 x2 x3 x4 ay aG qU iR h=>
aO qU (.sc (.bool true)) iR fun t93=>
e_ W R N E P x0 x2 x3 x4 ay aG t93 h
def fZ:N7:=fun W R N E P x0 x2 x3 x4 ay aG qU h=>
bw false qU (
ah (some 4) aG fun t94=>
ao (some false) (some 1) t94 h fun t95 _=>
ai Pg .lss 3 true t95 (.sc (.int .i64 0)) fun t97=>
gf W R N E P x0 x2 x3 x4 ay aG qU t97 h) (
gf W R N E P x0 x2 x3 x4 ay aG qU ab h)
def fC:N8:=fun W R N E P x0 x2 x3 x4 ay aG gF EM h=>
aO gF (.sc (.bool true)) EM fun t98=>
fZ W R N E P x0 x2 x3 x4 ay aG t98 h
def jd:N9:=fun W R N E P x0 x2 x3 x4 ay aG gF lb JX h=>
bw false gF (
aO lb JX (.sc (.bool false)) fun t99=>
fC W R N E P x0 x2 x3 x4 ay aG gF t99 h) (
fC W R N E P x0 x2 x3 x4 ay aG gF ab h)
def gI:N8:=fun W R N E P x0 x2 x3 x4 ay aG gF lb h=>
bw true lb (
ah (some 4) aG fun t100=>
ao (some false) (some 1) t100 h fun t101 _=>
ai Pg .neq 3 true t101 (.sc (.int .i64 0)) fun t103=>
jd W R N E P x0 x2 x3 x4 ay aG gF lb t103 h) (
jd W R N E P x0 x2 x3 x4 ay aG gF lb ab h)
def lc:N7:=fun W R N E P x0 x2 x3 x4 ay aG gF h=>
bw false gF (
ah (some 0) aG fun t104=>
ao (some false) (some 1) t104 h fun t105 _=>
aq Pg W 39 [t105] h (fun t107 vQ=>
iH .not t107 fun t109=>
gI W R N E P x0 x2 x3 x4 ay aG gF t109 vQ) P) (
gI W R N E P x0 x2 x3 x4 ay aG gF ab h)
def jH:N6:=fun W R N E P x0 x2 x3 x4 ay aG h=>
ah (some 0) aG fun t110=>
ao (some false) (some 1) t110 h fun t111 _=>
aq Pg W 38 [t111] h (fun t113 Gq=>
iH .not t113 fun t115=>
lc W R N E P x0 x2 x3 x4 ay aG t115 Gq) P
def gQ:N5:=fun W R N E P x0 x2 x3 x4 ay h=>
aH x0 fun t116=>
ah (some 0) t116 fun t117=>
ao (some false) (some 1) t117 h fun t118 _=>
bB (some (6,none)) t118 ay fun t120=>
ao (some true) (some 6) t120 h fun t121 _=>
bx (some [.string ⟨#[]⟩,.string ⟨#[]⟩,.slice none 0 0,.int .i64 0,.int .i64 0,.int .i64 0]) 6 87 h fun t123 Gp=>
aD (some 6) t123 t121 Gp W fun abn=>
jH W R N E P x0 x2 x3 x4 ay t123 abn
def mh:N6:=fun W R N E P x0 x2 x3 x4 ay n_ h=>
aF n_ (
gQ W R N E P x0 x2 x3 x4 ay h) (
E 0 [] h)
def pr:N5:=fun W R N E P x0 x2 x3 x4 ay h=>
ai Pg .lss 3 false ay x2 fun t126=>
mh W R N E P x0 x2 x3 x4 ay t126 h
def cG:GK:=fun W R N E P N' vs h=>pr W R N' (fun(i:Nat) (vs:List AV) (h:AH)=>if i=0 then n1 W R N E P h else E i vs h) P (vs.getD 0 ab) (vs.getD 1 ab) (vs.getD 2 ab) (vs.getD 3 ab) (vs.getD 4 ab) h
def oV:N5:=fun W R N E P x0 x2 x3 x4 ay h=>
dK (cG W R N E P) [x0,x2,x3,x4,ay] h
def jW:N5:=fun W R N E P x0 x1 x2 x3 x4 h=>
oV W R N E P x0 x2 x3 x4 x1 h
def nL:N5:=fun W R N E P x0 x1 x2 x3 x4 h=>
jW W R N E P x0 x1 x2 x3 x4 h
theorem aM{x0 x1 x2 x3 x4:AV}{h:AH}{M:WK}{R:RK}(hp:nL (fun id=>M id\/h.next<=id) (aJ Pg [.tmp 10] R) (aJ Pg [.tmp 10] R) (fun _ _ _=>False) (fun v h=>R (.bW v) h) x0 x1 x2 x3 x4 h):aA Pg 15 [x0,x1,x2,x3,x4] h M R:=
 fin (n:=156) (pl:=[(4,⟨[(none,(fr 0 5)),(some (4,false),(fr 5 5)),(some (9,true),(fr 10 3)),(some (4,false),(fr 13 1)),(none,(fr 14 2)),(some (15,false),(fr 16 3)),(none,(fr 19 2)),(some (20,false),(fr 21 7)),(none,(fr 28 1))],false,[],[]⟩),(8,⟨[(none,(fr 0 4)),(some (3,false),(fr 4 3)),(none,(fr 7 2)),(some (8,false),(fr 9 3)),(none,(fr 12 2))],false,[],[]⟩),(9,⟨[(none,(fr 0 3)),(some (2,true),(fr 3 1)),(none,(fr 4 2)),(some (5,false),(fr 6 3)),(some (8,true),(fr 9 3)),(some (5,false),(fr 12 2)),(some (13,true),(fr 14 3)),(some (5,false),(fr 17 1)),(none,(fr 18 1))],false,[],[]⟩),(17,⟨[(none,(fr 0 4)),(some (3,true),(fr 4 9)),(none,(fr 13 1))],false,[],[]⟩),(21,⟨[(none,[(0,false),(1,false),(2,false),(3,true),(4,false),(5,false),(6,false),(7,false),(8,false),(9,false),(10,false),(11,false),(12,false)])],true,[],[]⟩)]) (rs:=[.tmp 10]) (L:=rs) (fun c=>(a5 nL 0 1 2 3 4 c)) Tryz.mixed Tryz.func15 (fun c=>
(sq (a5 nL 0 1 2 3 4 c)
(sn
(sl (a0 n1 c))
(sq (a5 jW 0 1 2 3 4 c)
(bk 0 (lp [0,2,3,4,11] rs [(0,[])] (a5 oV 0 2 3 4 11 c) cG (fun i vs h=>if i=0 then n1 c.W c.R c.N c.E c.P h else c.E i vs h) (.b (.t .o)) fun c=>
(sn
(bk 1 (sq (a5 gQ 0 2 3 4 11 c)
(sn
(sn
(sn
(sn
(sn
(sq (a6 bV 0 2 3 4 11 12 c)
(sq (a7 bP 0 2 3 4 11 12 14 c)
(sn
(sn
(sn
(sm (a5 n2 0 2 3 4 14 c))
(sq (a8 n6 0 2 3 4 11 12 14 15 c)
(cd (a8 n5 0 2 3 4 11 14 15 135 c) (sq (a7 n4 0 2 3 4 11 14 15 c)
(sm (a7 n3 0 2 3 4 11 14 15 c))) tr)))
(sn
(cd (a9 n8 0 2 3 4 11 12 14 15 132 c) (sl (a0 n7 c)) tr)
(gr (gn (a8 bj 0 2 3 4 11 12 14 15 c) (gx (a9 aS 0 2 3 4 11 12 14 15 122 c) (gl (rY n9 0 2 3 4 11 12 14 15 122 131 c)))))))
(sq (a8 bH 0 2 3 4 11 12 14 15 c)
(cd (a9 a_ 0 2 3 4 11 12 14 15 112 c) tr tr)))))
(sq (a6 ck 0 2 3 4 11 12 c)
(cd (a7 b5 0 2 3 4 11 12 103 c) (sl (a0 bR c)) tr)))
(sn
(cd (a7 cP 0 2 3 4 11 12 95 c) (sl (a2 cp 0 11 c)) tr)
(gr (gn (a7 cU 0 2 3 4 11 12 13 c) (gx (a8 c9 0 2 3 4 11 12 13 79 c) (gn (a8 cB 0 2 3 4 11 12 79 80 c) (gx (a7 cC 0 2 3 4 11 12 82 c) (gx (a8 cF 0 2 3 4 11 12 82 85 c) (gx (a9 cS 0 2 3 4 11 12 82 85 88 c) (gx (a8 cL 0 2 3 4 11 12 82 90 c) (gx (a9 cw 0 2 3 4 11 12 82 90 93 c) (gl (a8 cT 0 2 3 4 11 12 82 94 c)))))))))))))
(gr (gn (a6 fl 0 2 3 4 11 12 c) (gx (a7 eC 0 2 3 4 11 12 67 c) (gn (a8 dZ 0 2 3 4 11 12 67 70 c) (gx (a7 dS 0 2 3 4 11 12 72 c) (gl (a8 dn 0 2 3 4 11 12 72 75 c))))))))
(sq (a6 fD 0 2 3 4 11 12 c)
(cd (a7 fu 0 2 3 4 11 12 60 c) (sl (a2 fM 0 11 c)) tr)))
(sn
(cd (a7 fk 0 2 3 4 11 12 55 c) (sl (a2 fL 0 11 c)) tr)
(gr (gn (a6 jH 0 2 3 4 11 12 c) (gx (a7 lc 0 2 3 4 11 12 31 c) (gx (a8 gI 0 2 3 4 11 12 31 36 c) (gx (a9 jd 0 2 3 4 11 12 31 36 39 c) (gn (a8 fC 0 2 3 4 11 12 31 40 c) (gx (a7 fZ 0 2 3 4 11 12 42 c) (gn (a8 gf 0 2 3 4 11 12 42 45 c) (gx (a7 e_ 0 2 3 4 11 12 47 c) (gl (a8 fQ 0 2 3 4 11 12 47 54 c)))))))))))))))
(sq (a5 pr 0 2 3 4 11 c)
(cd (a6 mh 0 2 3 4 11 19 c) tr tr))))))))) hp
attribute [simp] n1 n2 n3 n4 n5 n6 n7 n8 n9 aS bj a_ bH bP bV bR b5 ck cp cP cT cw cL cS cF cC cB c9 cU dn dS dZ eC fl fM fu fD fL fk fQ e_ gf fZ fC jd gI lc jH gQ mh pr jW nL
end cz
namespace vj
abbrev rs:List Nat:=[2]
def n1:N1:=fun _ R _ _ _ x3 h=>
R [x3] h
def n2:N3:=fun _ _ N _ _ x0 x3 x4 h=>
ai Pg .add 3 true x4 (.sc (.int .i64 1)) fun t1=>
N [x0,x3,t1] h
def n3:N3:=fun W R N E P x0 x3 x4 h=>
bB (some (3,none)) x0 x4 fun t2=>
ah (some 2) t2 fun t3=>
ao (some false) (some 1) t3 h fun t4 _=>
ai Pg .add 3 false x3 t4 fun t6=>
n2 W R N E P x0 t6 x4 h
def n4:N4:=fun W R N E P x0 x3 x4 x8 h=>
aF x8 (
n3 W R N E P x0 x3 x4 h) (
E 0 [x3] h)
def n5:N3:=fun W R N E P x0 x3 x4 h=>
(aY x0=false)/\bL x0 fun t7=>
ai Pg .lss 3 false x4 t7 fun t8=>
n4 W R N E P x0 x3 x4 t8 h
def cG:GK:=fun W R N E P N' vs h=>n5 W R N' (fun(i:Nat) (vs:List AV) (h:AH)=>if i=0 then n1 W R N E P (vs.getD 0 ab) h else E i vs h) P (vs.getD 0 ab) (vs.getD 1 ab) (vs.getD 2 ab) h
def n6:N3:=fun W R N E P x0 x3 x4 h=>
dK (cG W R N E P) [x0,x3,x4] h
def n7:N2:=fun W R N E P x0 x3 h=>
n6 W R N E P x0 x3 (.sc (.int .i64 0)) h
def n8:N1:=fun W R N E P x0 h=>
n7 W R N E P x0 (.sc (.int .i64 0)) h
def n9:N1:=fun W R N E P x0 h=>
n8 W R N E P x0 h
theorem aM{x0:AV}{h:AH}{M:WK}{R:RK}(hp:n9 (fun id=>M id\/h.next<=id) (aJ Pg [.tmp 2] R) (aJ Pg [.tmp 2] R) (fun _ _ _=>False) (fun v h=>R (.bW v) h) x0 h):aA Pg 17 [x0] h M R:=
 fin (n:=19) (pl:=[]) (rs:=[.tmp 2]) (L:=rs) (fun c=>(a1 n9 0 c)) Tryz.mixed Tryz.func17 (fun c=>
(sq (a1 n9 0 c)
(sq (a1 n8 0 c)
(sn
(sl (a1 n1 3 c))
(sq (a2 n7 0 3 c)
(bk 0 (lp [0,3,4] rs [(0,[3])] (a3 n6 0 3 4 c) cG (fun i vs h=>if i=0 then n1 c.W c.R c.N c.E c.P (vs.getD 0 ab) h else c.E i vs h) (.b (.t .o)) fun c=>
(sn
(sn
(sm (a3 n2 0 3 4 c))
(bk 1 (sm (a3 n3 0 3 4 c))))
(sq (a3 n5 0 3 4 c)
(cd (a4 n4 0 3 4 8 c) tr tr)))))))))) hp
attribute [simp] n1 n2 n3 n4 n5 n7 n8 n9
end vj
namespace YO
abbrev rs:List Nat:=[2]
def n3:N1:=fun _ R _ _ _ x4 h=>
aF x4 (
R [(.sc (.bool true))] h) (
R [(.sc (.bool false))] h)
def cp:N1:=fun W R N E P x0 h=>
ai Pg .eql 9 true x0 (.sc (.string ⟨#[113,117,98,105,116,115]⟩)) fun t8=>
aF t8 (
n3 W R N E P t8 h) (
ai Pg .eql 9 true x0 (.sc (.string ⟨#[98,105,116,115]⟩)) fun t7=>
aF t7 (
n3 W R N E P t7 h) (
ai Pg .eql 9 true x0 (.sc (.string ⟨#[103,97,116,101]⟩)) fun t6=>
aF t6 (
n3 W R N E P t6 h) (
ai Pg .eql 9 true x0 (.sc (.string ⟨#[114,101,112,101,97,116]⟩)) fun t5=>
aF t5 (
n3 W R N E P t5 h) (
ai Pg .eql 9 true x0 (.sc (.string ⟨#[105,102]⟩)) fun t4=>
aF t4 (
n3 W R N E P t4 h) (
ai Pg .eql 9 true x0 (.sc (.string ⟨#[117,115,101]⟩)) fun t3=>
aF t3 (
n3 W R N E P t3 h) (
ai Pg .eql 9 true x0 (.sc (.string ⟨#[109,101,97,115,117,114,101]⟩)) fun t2=>
aF t2 (
n3 W R N E P t2 h) (
ai Pg .eql 9 true x0 (.sc (.string ⟨#[114,101,115,101,116]⟩)) fun t1=>
n3 W R N E P t1 h)))))))
theorem aM{x0:AV}{h:AH}{M:WK}{R:RK}(hp:cp (fun id=>M id\/h.next<=id) (aJ Pg [.tmp 2] R) (aJ Pg [.tmp 2] R) (fun _ _ _=>False) (fun v h=>R (.bW v) h) x0 h):aA Pg 38 [x0] h M R:=
 fin (n:=13) (pl:=[]) (rs:=[.tmp 2]) (L:=rs) (fun c=>(a1 cp 0 c)) Tryz.mixed Tryz.func38 (fun c=>
(sq (a1 cp 0 c)
(sn
tr
(si (bk 0 (sn
(cd (a1 n3 4 c) tr tr)
(si (ci tr (si (ci tr (si (ci tr (si (ci tr (si (ci tr (si (ci tr (si (ci tr tr)))))))))))))))))))) hp
attribute [simp] n3 cp
end YO
namespace YN
abbrev rs:List Nat:=[2]
def n2:N2:=fun _ R _ _ _ x9 ay h=>
aO x9 (.sc (.bool true)) ay fun t1=>
R [t1] h
def n4:N3:=fun W R N E P x0 x5 x7 h=>
aO x5 (.sc (.bool true)) x7 fun t3=>
bw false t3 (
ai Pg .eql 9 true x0 (.sc (.string ⟨#[105,102]⟩)) fun t2=>
n2 W R N E P t3 t2 h) (
n2 W R N E P t3 ab h)
def n7:N1:=fun W R N E P x0 h=>
ai Pg .eql 9 true x0 (.sc (.string ⟨#[103,97,116,101]⟩)) fun t5=>
bw false t5 (
ai Pg .eql 9 true x0 (.sc (.string ⟨#[114,101,112,101,97,116]⟩)) fun t4=>
n4 W R N E P x0 t5 t4 h) (
n4 W R N E P x0 t5 ab h)
theorem aM{x0:AV}{h:AH}{M:WK}{R:RK}(hp:n7 (fun id=>M id\/h.next<=id) (aJ Pg [.tmp 2] R) (aJ Pg [.tmp 2] R) (fun _ _ _=>False) (fun v h=>R (.bW v) h) x0 h):aA Pg 39 [x0] h M R:=
 fin (n:=13) (pl:=[(1,⟨[(none,(fr 0 3)),(some (2,false),(fr 3 2)),(none,(fr 5 2)),(some (6,false),(fr 7 2)),(none,(fr 9 2))],false,[],[]⟩)]) (rs:=[.tmp 2]) (L:=rs) (fun c=>(a1 n7 0 c)) Tryz.mixed Tryz.func39 (fun c=>
(sq (a1 n7 0 c)
(sn
tr
(gr (gm (gz (gn (a3 n4 0 5 7 c) (gz (gl (a2 n2 9 11 c)))))))))) hp
attribute [simp] n2 n4 n7
end YN
namespace Mn
abbrev rs:List Nat:=[6]
def n1:N0:=fun _ R _ _ _ h=>
R [(.sc (.bool false))] h
def n2:N3:=fun W R N E P x0 x1 x2 h=>
aH x0 fun t1=>
ah (some 0) t1 fun t2=>
ao (some false) (some 1) t2 h fun t3 _=>
bB (some (6,none)) t3 x1 fun t5=>
ah (some 5) t5 fun t6=>
ao (some false) (some 1) t6 h fun t7 _=>
aH x0 fun t9=>
ah (some 4) t9 fun t10=>
aD (some 1) t10 t7 h W fun mO=>
aH x0 fun t12=>
ah (some 5) t12 fun t13=>
aD (some 1) t13 x2 mO W fun z6=>
n1 W R N E P z6
def n3:N3:=fun W R N E P x0 x1 x2 h=>
n2 W R N E P x0 x1 x2 h
theorem aM{x0 x1 x2:AV}{h:AH}{M:WK}{R:RK}(hp:n3 (fun id=>M id\/h.next<=id) (aJ Pg [.tmp 6] R) (aJ Pg [.tmp 6] R) (fun _ _ _=>False) (fun v h=>R (.bW v) h) x0 x1 x2 h):aA Pg 40 [x0,x1,x2] h M R:=
 fin (n:=22) (pl:=[]) (rs:=[.tmp 6]) (L:=rs) (fun c=>(a3 n3 0 1 2 c)) Tryz.mixed Tryz.func40 (fun c=>
(sq (a3 n3 0 1 2 c)
(sq (a3 n2 0 1 2 c)
(sl (a0 n1 c))))) hp
attribute [simp] n1 n2 n3
end Mn
namespace db
abbrev rs:List Nat:=[6]
def n1:N0:=fun _ R _ _ _ h=>
R [(.sc (.bool true))] h
def n2:N2:=fun W R _ _ P x0 x1 h=>
aq Pg W 72 [x0,x1] h (fun t1 h2=>
R [t1] h2) P
def n3:N2:=fun W R _ _ P x0 x1 h=>
aq Pg W 40 [x0,x1,(.sc (.int .i64 112))] h (fun t3 h4=>
R [t3] h4) P
def n4:N3:=fun W R N E P x0 x1 pj h=>
aF pj (
n3 W R N E P x0 x1 h) (
n1 W R N E P h)
def n5:N3:=fun W R N E P x0 x1 x7 h=>
ah (some 3) x7 fun t5=>
ao (some false) (some 1) t5 h fun t6 _=>
ai Pg .lss 3 true t6 (.sc (.int .i64 0)) fun t8=>
n4 W R N E P x0 x1 t8 h
def n6:N2:=fun W R _ _ P x0 x1 h=>
aq Pg W 40 [x0,x1,(.sc (.int .i64 112))] h (fun t9 mP=>
R [t9] mP) P
def n7:N3:=fun W R N E P x0 x1 Tf h=>
aF Tf (
n6 W R N E P x0 x1 h) (
n1 W R N E P h)
def n8:N4:=fun W R N E P x0 x1 lL wY h=>
aO lL (.sc (.bool true)) wY fun t11=>
n7 W R N E P x0 x1 t11 h
def n9:N5:=fun W R N E P x0 x1 lL uF sB h=>
bw false lL (
aO uF sB (.sc (.bool false)) fun t12=>
n8 W R N E P x0 x1 lL t12 h) (
n8 W R N E P x0 x1 lL ab h)
def aS:N6:=fun W R N E P x0 x1 x7 x8 lL uF h=>
bw true uF (
ah (some 3) x7 fun t13=>
ao (some false) (some 1) t13 h fun t14 _=>
aH x0 fun t16=>
ah (some 2) t16 fun t17=>
ao (some false) (some 1) t17 h fun t18 _=>
bB (some (3,none)) t18 x8 fun t20=>
ah (some 2) t20 fun t21=>
ao (some false) (some 1) t21 h fun t22 _=>
ai Pg .shl 3 true (.sc (.int .i64 1)) t22 fun t24=>
ai Pg .geq 3 false t14 t24 fun t25=>
n9 W R N E P x0 x1 lL uF t25 h) (
n9 W R N E P x0 x1 lL uF ab h)
def bj:N5:=fun W R N E P x0 x1 x7 x8 lL h=>
bw false lL (
aH x0 fun t26=>
ah (some 2) t26 fun t27=>
ao (some false) (some 1) t27 h fun t28 _=>
bB (some (3,none)) t28 x8 fun t30=>
ah (some 2) t30 fun t31=>
ao (some false) (some 1) t31 h fun t32 _=>
ai Pg .lss 3 true t32 (.sc (.int .i64 63)) fun t34=>
aS W R N E P x0 x1 x7 x8 lL t34 h) (
aS W R N E P x0 x1 x7 x8 lL ab h)
def a_:N4:=fun W R N E P x0 x1 x7 x8 h=>
ah (some 3) x7 fun t35=>
ao (some false) (some 1) t35 h fun t36 _=>
ai Pg .lss 3 true t36 (.sc (.int .i64 0)) fun t38=>
bj W R N E P x0 x1 x7 x8 t38 h
def bH:N2:=fun W R _ _ P x0 x1 h=>
aq Pg W 40 [x0,x1,(.sc (.int .i64 110))] h (fun t39 zx=>
R [t39] zx) P
def bP:N5:=fun W R N E P x0 x1 x7 x8 nI h=>
aF nI (
bH W R N E P x0 x1 h) (
a_ W R N E P x0 x1 x7 x8 h)
def bV:N4:=fun W R N E P x0 x1 x7 x8 h=>
ai Pg .lss 3 true x8 (.sc (.int .i64 0)) fun t41=>
bP W R N E P x0 x1 x7 x8 t41 h
def bR:N3:=fun W R N E P x0 x1 x7 h=>
aH x0 fun t42=>
ah (some 2) t42 fun t43=>
ao (some false) (some 1) t43 h fun t44 _=>
ah (some 1) x7 fun t46=>
ao (some false) (some 1) t46 h fun t47 _=>
aq Pg pT 46 [t44,t47] h (fun t49 tV=>
bV W R N E P x0 x1 x7 t49 tV) P
def b5:N3:=fun W R _ _ P x0 x1 x2 h=>
aq Pg W 73 [x0,x1,x2] h (fun t51 pb=>
R [t51] pb) P
def ck:N1:=fun _ R _ _ _ x6 h=>
R [x6] h
def cp:N2:=fun W R N E P Am um h=>
aO Am um (.sc (.bool false)) fun t53=>
ck W R N E P t53 h
def cP:N4:=fun W R N E P x0 x1 x7 Am h=>
bw true Am (
ah (some 2) x7 fun t54=>
ao (some false) (some 1) t54 h fun t55 _=>
bB (some (2,none)) t55 (.sc (.int .i64 1)) fun t57=>
ao (some true) (some 2) t57 h fun t58 _=>
aH x0 fun t60=>
ah (some 2) t60 fun t61=>
ao (some false) (some 1) t61 h fun t62 _=>
aq Pg W 74 [x0,x1,t58,t62] h (fun t64 Gj=>
cp W R N E P Am t64 Gj) P) (
cp W R N E P Am ab h)
def cT:N3:=fun W R N E P x0 x1 x7 h=>
ah (some 2) x7 fun t66=>
ao (some false) (some 1) t66 h fun t67 _=>
bB (some (2,none)) t67 (.sc (.int .i64 0)) fun t69=>
ao (some true) (some 2) t69 h fun t70 _=>
aH x0 fun t72=>
ah (some 1) t72 fun t73=>
ao (some false) (some 1) t73 h fun t74 _=>
aq Pg W 74 [x0,x1,t70,t74] h (fun t76 Vi=>
cP W R N E P x0 x1 x7 t76 Vi) P
def cw:N2:=fun W R _ _ P x0 x1 h=>
aq Pg W 40 [x0,x1,(.sc (.int .i64 111))] h (fun t78 Vh=>
R [t78] Vh) P
def cL:N4:=fun W R N E P x0 x1 x7 EG h=>
aF EG (
cw W R N E P x0 x1 h) (
cT W R N E P x0 x1 x7 h)
def cS:N3:=fun W R N E P x0 x1 x7 h=>
ah (some 2) x7 fun t80=>
ao (some false) (some 1) t80 h fun t81 _=>
(aY t81=false)/\bL t81 fun t83=>
ai Pg .neq 3 true t83 (.sc (.int .i64 2)) fun t84=>
cL W R N E P x0 x1 x7 t84 h
def cF:N3:=fun W R _ _ P x0 x1 x7 h=>
ah (some 2) x7 fun t85=>
ao (some false) (some 1) t85 h fun t86 _=>
bB (some (2,none)) t86 (.sc (.int .i64 0)) fun t88=>
ao (some true) (some 2) t88 h fun t89 _=>
aH x0 fun t91=>
ah (some 1) t91 fun t92=>
ao (some false) (some 1) t92 h fun t93 _=>
aq Pg W 74 [x0,x1,t89,t93] h (fun t95 Gb=>
R [t95] Gb) P
def cC:N2:=fun W R _ _ P x0 x1 h=>
aq Pg W 40 [x0,x1,(.sc (.int .i64 111))] h (fun t97 Ga=>
R [t97] Ga) P
def cB:N4:=fun W R N E P x0 x1 x7 sC h=>
aF sC (
cC W R N E P x0 x1 h) (
cF W R N E P x0 x1 x7 h)
def c9:N3:=fun W R N E P x0 x1 x7 h=>
ah (some 2) x7 fun t99=>
ao (some false) (some 1) t99 h fun t100 _=>
(aY t100=false)/\bL t100 fun t102=>
ai Pg .neq 3 true t102 (.sc (.int .i64 1)) fun t103=>
cB W R N E P x0 x1 x7 t103 h
def cU:N4:=fun W R N E P x0 x1 x7 MI h=>
aF MI (
c9 W R N E P x0 x1 x7 h) (
n1 W R N E P h)
def dn:N4:=fun W R N E P x0 x1 x7 dm h=>
ai Pg .eql 9 true dm (.sc (.string ⟨#[114,101,115,101,116]⟩)) fun t104=>
cU W R N E P x0 x1 x7 t104 h
def dS:N5:=fun W R N E P x0 x1 x7 dm Tc h=>
aF Tc (
cS W R N E P x0 x1 x7 h) (
dn W R N E P x0 x1 x7 dm h)
def dZ:N4:=fun W R N E P x0 x1 x7 dm h=>
ai Pg .eql 9 true dm (.sc (.string ⟨#[109,101,97,115,117,114,101]⟩)) fun t105=>
dS W R N E P x0 x1 x7 dm t105 h
def eC:N6:=fun W R N E P x0 x1 x2 x7 dm sA h=>
aF sA (
b5 W R N E P x0 x1 x2 h) (
dZ W R N E P x0 x1 x7 dm h)
def fl:N5:=fun W R N E P x0 x1 x2 x7 dm h=>
ai Pg .eql 9 true dm (.sc (.string ⟨#[117,115,101]⟩)) fun t106=>
eC W R N E P x0 x1 x2 x7 dm t106 h
def fM:N6:=fun W R N E P x0 x1 x2 x7 dm iM h=>
aF iM (
bR W R N E P x0 x1 x7 h) (
fl W R N E P x0 x1 x2 x7 dm h)
def fu:N5:=fun W R N E P x0 x1 x2 x7 dm h=>
ai Pg .eql 9 true dm (.sc (.string ⟨#[105,102]⟩)) fun t107=>
fM W R N E P x0 x1 x2 x7 dm t107 h
def fD:N6:=fun W R N E P x0 x1 x2 x7 dm oR h=>
aF oR (
n5 W R N E P x0 x1 x7 h) (
fu W R N E P x0 x1 x2 x7 dm h)
def fL:N5:=fun W R N E P x0 x1 x2 x7 dm h=>
ai Pg .eql 9 true dm (.sc (.string ⟨#[114,101,112,101,97,116]⟩)) fun t108=>
fD W R N E P x0 x1 x2 x7 dm t108 h
def fk:N6:=fun W R N E P x0 x1 x2 x7 dm fj h=>
aF fj (
n2 W R N E P x0 x1 h) (
fL W R N E P x0 x1 x2 x7 dm h)
def fQ:N6:=fun W R N E P x0 x1 x2 x7 dm fj h=>
aF fj (
fk W R N E P x0 x1 x2 x7 dm fj h) (
ai Pg .eql 9 true dm (.sc (.string ⟨#[103,97,116,101]⟩)) fun t109=>
fk W R N E P x0 x1 x2 x7 dm t109 h)
def e_:N5:=fun W R N E P x0 x1 x2 x7 dm h=>
ai Pg .eql 9 true dm (.sc (.string ⟨#[98,105,116,115]⟩)) fun t110=>
fQ W R N E P x0 x1 x2 x7 dm t110 h
def gf:N6:=fun W R N E P x0 x1 x2 x7 dm fj h=>
aF fj (
fk W R N E P x0 x1 x2 x7 dm fj h) (
e_ W R N E P x0 x1 x2 x7 dm h)
def fZ:N5:=fun W R N E P x0 x1 x2 x7 dm h=>
ai Pg .eql 9 true dm (.sc (.string ⟨#[113,117,98,105,116,115]⟩)) fun t111=>
gf W R N E P x0 x1 x2 x7 dm t111 h
def fC:N4:=fun W R N E P x0 x1 x2 x7 h=>
ah (some 0) x7 fun t112=>
ao (some false) (some 1) t112 h fun t113 _=>
fZ W R N E P x0 x1 x2 x7 t113 h
def jd:N3:=fun W R N E P x0 x1 x2 h=>
aH x0 fun t115=>
ah (some 0) t115 fun t116=>
ao (some false) (some 1) t116 h fun t117 _=>
bB (some (6,none)) t117 x1 fun t119=>
ao (some true) (some 6) t119 h fun t120 _=>
bx (some [.string ⟨#[]⟩,.string ⟨#[]⟩,.slice none 0 0,.int .i64 0,.int .i64 0,.int .i64 0]) 6 87 h fun t122 Oa=>
aD (some 6) t122 t120 Oa W fun Gp=>
fC W R N E P x0 x1 x2 t122 Gp
def gI:N3:=fun W R N E P x0 x1 x2 h=>
jd W R N E P x0 x1 x2 h
theorem aM{x0 x1 x2:AV}{h:AH}{M:WK}{R:RK}(hp:gI (fun id=>M id\/h.next<=id) (aJ Pg [.tmp 6] R) (aJ Pg [.tmp 6] R) (fun _ _ _=>False) (fun v h=>R (.bW v) h) x0 x1 x2 h):aA Pg 41 [x0,x1,x2] h M R:=
 fin (n:=137) (pl:=[(11,⟨[(none,(fr 0 8))],false,[],[6]⟩),(14,⟨[(none,(fr 0 4)),(some (3,false),(fr 4 10)),(some (13,true),(fr 14 12)),(some (3,false),(fr 26 1)),(none,(fr 27 1))],false,[],[]⟩),(21,⟨[(none,(fr 0 12)),(some (11,true),(fr 12 11)),(none,(fr 23 2))],false,[],[]⟩),(25,⟨[(none,(fr 0 12))],false,[],[]⟩)]) (rs:=[.tmp 6]) (L:=rs) (fun c=>(a3 gI 0 1 2 c)) Tryz.mixed Tryz.func41 (fun c=>
(sq (a3 gI 0 1 2 c)
(sq (a3 jd 0 1 2 c)
(sn
(sl (a0 n1 c))
(sq (a4 fC 0 1 2 7 c)
(bk 0 (sn
(cd (a6 fk 0 1 2 7 17 18 c) (sl (a2 n2 0 1 c)) (sq (a5 fL 0 1 2 7 17 c)
(cd (a6 fD 0 1 2 7 17 25 c) (sq (a3 n5 0 1 7 c)
(cd (a3 n4 0 1 29 c) (sl (a2 n3 0 1 c)) tr)) (sq (a5 fu 0 1 2 7 17 c)
(cd (a6 fM 0 1 2 7 17 33 c) (sn
(sn
(sn
(cd (a3 n7 0 1 74 c) (sl (a2 n6 0 1 c)) tr)
(gr (gn (a4 a_ 0 1 7 8 c) (gx (a5 bj 0 1 7 8 50 c) (gx (a6 aS 0 1 7 8 50 60 c) (gx (a5 n9 0 1 50 60 72 c) (gl (a4 n8 0 1 50 73 c))))))))
(sq (a4 bV 0 1 7 8 c)
(cd (a5 bP 0 1 7 8 43 c) (sl (a2 bH 0 1 c)) tr)))
(gr (gl (a3 bR 0 1 7 c)))) (sq (a5 fl 0 1 2 7 17 c)
(cd (a6 eC 0 1 2 7 17 78 c) (sl (a3 b5 0 1 2 c)) (sq (a4 dZ 0 1 7 17 c)
(cd (a5 dS 0 1 7 17 84 c) (sn
(sn
(sm (a1 ck 6 c))
(gr (gn (a3 cT 0 1 7 c) (gx (a4 cP 0 1 7 104 c) (gl (a2 cp 104 115 c))))))
(sq (a3 cS 0 1 7 c)
(cd (a4 cL 0 1 7 89 c) (sl (a2 cw 0 1 c)) tr))) (sq (a4 dn 0 1 7 17 c)
(cd (a4 cU 0 1 7 117 c) (sn
(sl (a3 cF 0 1 7 c))
(sq (a3 c9 0 1 7 c)
(cd (a4 cB 0 1 7 122 c) (sl (a2 cC 0 1 c)) tr))) tr)))))))))))
(sq (a5 fZ 0 1 2 7 17 c)
(cd (a6 gf 0 1 2 7 17 18 c) tr (sq (a5 e_ 0 1 2 7 17 c)
(cd (a6 fQ 0 1 2 7 17 18 c) tr tr))))))))))) hp
attribute [simp] n1 n2 n3 n4 n5 n6 n7 n8 n9 aS bj a_ bH bP bV bR b5 ck cp cP cT cw cL cS cF cC cB c9 cU dn dS dZ eC fl fM fu fD fL fk fQ e_ gf fZ fC jd gI
end db
namespace eh
abbrev rs:List Nat:=[4]
def n1:N0:=fun _ R _ _ _ h=>
R [(.sc (.bool true))] h
def n2:N3:=fun W R N E P x0 x5 x6 h=>
aH x0 fun t1=>
ah (some 1) t1 fun t2=>
ao (some false) (some 1) t2 h fun t3 _=>
ah (some 1) x5 fun t5=>
ao (some false) (some 1) t5 h fun t6 _=>
ah (some 3) x5 fun t8=>
ao (some false) (some 1) t8 h fun t9 _=>
cN (some ([.string ⟨#[]⟩,.int .i64 0,.int .i64 0],.inl [(0,1),(1,1),(2,1)])) [(0,t6),(1,x6),(2,t9)] fun t11=>
dG (some (3,104,[.string ⟨#[]⟩,.int .i64 0,.int .i64 0])) 1 [(0,t11)] h fun t12 Ic=>
fE (some (3,32,104)) t3 t12 Ic W fun t14 qf=>
aH x0 fun t16=>
ah (some 1) t16 fun t17=>
aD (some 1) t17 t14 qf W fun rV=>
n1 W R N E P rV
def n3:N2:=fun W R _ _ P x0 x1 h=>
aq Pg W 40 [x0,x1,(.sc (.int .i64 1))] h (fun t19 rU=>
R [t19] rU) P
def n4:N5:=fun W R N E P x0 x1 x5 x6 Am h=>
aF Am (
n3 W R N E P x0 x1 h) (
n2 W R N E P x0 x5 x6 h)
def n5:N4:=fun W R N E P x0 x1 x5 x6 h=>
ah (some 3) x5 fun t21=>
ao (some false) (some 1) t21 h fun t22 _=>
ai Pg .sub 3 true (.sc (.int .i64 64)) x6 fun t24=>
ai Pg .gtr 3 false t22 t24 fun t25=>
n4 W R N E P x0 x1 x5 x6 t25 h
def n6:N3:=fun W R N E P x0 x1 x5 h=>
aH x0 fun t26=>
ah (some 1) t26 fun t27=>
ao (some false) (some 1) t27 h fun t28 _=>
aq Pg W 17 [t28] h (fun t30 D7=>
n5 W R N E P x0 x1 x5 t30 D7) P
def n7:N2:=fun W R _ _ P x0 x1 h=>
aq Pg W 40 [x0,x1,(.sc (.int .i64 112))] h (fun t32 uZ=>
R [t32] uZ) P
def n8:N4:=fun W R N E P x0 x1 x5 JV h=>
aF JV (
n7 W R N E P x0 x1 h) (
n6 W R N E P x0 x1 x5 h)
def n9:N3:=fun W R N E P x0 x1 x5 h=>
ah (some 3) x5 fun t34=>
ao (some false) (some 1) t34 h fun t35 _=>
ai Pg .lss 3 true t35 (.sc (.int .i64 1)) fun t37=>
n8 W R N E P x0 x1 x5 t37 h
def aS:N3:=fun W R N E P x0 x5 x7 h=>
aH x0 fun t38=>
ah (some 2) t38 fun t39=>
ao (some false) (some 1) t39 h fun t40 _=>
ah (some 1) x5 fun t42=>
ao (some false) (some 1) t42 h fun t43 _=>
ah (some 3) x5 fun t45=>
ao (some false) (some 1) t45 h fun t46 _=>
cN (some ([.string ⟨#[]⟩,.int .i64 0,.int .i64 0],.inl [(0,1),(1,1),(2,1)])) [(0,t43),(1,x7),(2,t46)] fun t48=>
dG (some (3,104,[.string ⟨#[]⟩,.int .i64 0,.int .i64 0])) 1 [(0,t48)] h fun t49 tV=>
fE (some (3,32,104)) t40 t49 tV W fun t51 pb=>
aH x0 fun t53=>
ah (some 2) t53 fun t54=>
aD (some 1) t54 t51 pb W fun sR=>
n1 W R N E P sR
def bj:N2:=fun W R _ _ P x0 x1 h=>
aq Pg W 40 [x0,x1,(.sc (.int .i64 1))] h (fun t56 tT=>
R [t56] tT) P
def a_:N5:=fun W R N E P x0 x1 x5 x7 ME h=>
aF ME (
bj W R N E P x0 x1 h) (
aS W R N E P x0 x5 x7 h)
def bH:N4:=fun W R N E P x0 x1 x5 x7 h=>
ah (some 3) x5 fun t58=>
ao (some false) (some 1) t58 h fun t59 _=>
ai Pg .sub 3 true (.sc (.int .i64 64)) x7 fun t61=>
ai Pg .gtr 3 false t59 t61 fun t62=>
a_ W R N E P x0 x1 x5 x7 t62 h
def bP:N3:=fun W R N E P x0 x1 x5 h=>
aH x0 fun t63=>
ah (some 2) t63 fun t64=>
ao (some false) (some 1) t64 h fun t65 _=>
aq Pg W 17 [t65] h (fun t67 Gh=>
bH W R N E P x0 x1 x5 t67 Gh) P
def bV:N2:=fun W R _ _ P x0 x1 h=>
aq Pg W 40 [x0,x1,(.sc (.int .i64 112))] h (fun t69 xX=>
R [t69] xX) P
def bR:N4:=fun W R N E P x0 x1 x5 MG h=>
aF MG (
bV W R N E P x0 x1 h) (
bP W R N E P x0 x1 x5 h)
def b5:N3:=fun W R N E P x0 x1 x5 h=>
ah (some 3) x5 fun t71=>
ao (some false) (some 1) t71 h fun t72 _=>
ai Pg .lss 3 true t72 (.sc (.int .i64 1)) fun t74=>
bR W R N E P x0 x1 x5 t74 h
def ck:N2:=fun W R N E P x0 x8 h=>
aH x0 fun t75=>
ah (some 3) t75 fun t76=>
ao (some false) (some 1) t76 h fun t77 _=>
ao (some true) (some 7) x8 h fun t79 _=>
dG (some (7,97,[.string ⟨#[]⟩,.slice none 0 0,.int .i64 0,.int .i64 0,.int .i64 0,.int .i64 0,.bool false])) 1 [(0,t79)] h fun t81 xV=>
fE (some (7,80,97)) t77 t81 xV W fun t83 Gc=>
aH x0 fun t85=>
ah (some 3) t85 fun t86=>
aD (some 1) t86 t83 Gc W fun Ca=>
n1 W R N E P Ca
def cp:N2:=fun W R _ _ P x0 x1 h=>
aq Pg W 40 [x0,x1,(.sc (.int .i64 113))] h (fun t88 LB=>
R [t88] LB) P
def cP:N4:=fun W R N E P x0 x1 x8 wY h=>
aF wY (
cp W R N E P x0 x1 h) (
ck W R N E P x0 x8 h)
def cT:N3:=fun W R N E P x0 x1 x8 h=>
ah (some 1) x8 fun t90=>
ao (some false) (some 1) t90 h fun t91 _=>
aq Pg W 94 [t91] h (fun t93 B_=>
cP W R N E P x0 x1 x8 t93 B_) P
def cw:N5:=fun _ _ N _ _ x0 x1 x5 x8 x9 h=>
ai Pg .add 3 true x9 (.sc (.int .i64 1)) fun t95=>
N [x0,x1,x5,x8,t95] h
def cL:N5:=fun W R N E P x0 x1 x5 x8 x9 h=>
ah (some 1) x8 fun t96=>
ao (some false) (some 1) t96 h fun t97 _=>
ah (some 2) x5 fun t99=>
ao (some false) (some 1) t99 h fun t100 _=>
bB (some (2,none)) t100 x9 fun t102=>
ah (some 0) t102 fun t103=>
ao (some false) (some 1) t103 h fun t104 _=>
dG (some (1,9,[.string ⟨#[]⟩])) 1 [(0,t104)] h fun t106 Gt=>
fE (some (1,16,9)) t97 t106 Gt W fun t108 Og=>
ah (some 1) x8 fun t110=>
aD (some 1) t110 t108 Og W fun Of=>
cw W R N E P x0 x1 x5 x8 x9 Of
def cS:N2:=fun W R _ _ P x0 x1 h=>
aq Pg W 40 [x0,x1,(.sc (.int .i64 112))] h (fun t112 Oe=>
R [t112] Oe) P
def cF:N6:=fun W R N E P x0 x1 x5 x8 x9 EL h=>
aF EL (
cS W R N E P x0 x1 h) (
cL W R N E P x0 x1 x5 x8 x9 h)
def cC:N5:=fun W R N E P x0 x1 x5 x8 x9 h=>
ah (some 2) x5 fun t114=>
ao (some false) (some 1) t114 h fun t115 _=>
bB (some (2,none)) t115 x9 fun t117=>
ah (some 1) t117 fun t118=>
ao (some false) (some 1) t118 h fun t119 _=>
ai Pg .neq 3 true t119 (.sc (.int .i64 (-1))) fun t121=>
cF W R N E P x0 x1 x5 x8 x9 t121 h
def cB:N6:=fun W R N E P x0 x1 x5 x8 x9 kh h=>
aF kh (
cC W R N E P x0 x1 x5 x8 x9 h) (
E 1 [x0,x1,x8] h)
def c9:N5:=fun W R N E P x0 x1 x5 x8 x9 h=>
ah (some 2) x5 fun t122=>
ao (some false) (some 1) t122 h fun t123 _=>
(aY t123=false)/\bL t123 fun t125=>
ai Pg .lss 3 false x9 t125 fun t126=>
cB W R N E P x0 x1 x5 x8 x9 t126 h
def cG:GK:=fun W R N E P N' vs h=>c9 W R N' (fun(i:Nat) (vs:List AV) (h:AH)=>if i=1 then cT W R N E P (vs.getD 0 ab) (vs.getD 1 ab) (vs.getD 2 ab) h else if i=0 then n1 W R N E P h else E i vs h) P (vs.getD 0 ab) (vs.getD 1 ab) (vs.getD 2 ab) (vs.getD 3 ab) (vs.getD 4 ab) h
def cU:N5:=fun W R N E P x0 x1 x5 x8 x9 h=>
dK (cG W R N E P) [x0,x1,x5,x8,x9] h
def dn:N4:=fun W R N E P x0 x1 x5 x8 h=>
cU W R N E P x0 x1 x5 x8 (.sc (.int .i64 0)) h
def dS:N3:=fun W R N E P x0 x1 x5 h=>
ah (some 1) x5 fun t127=>
ao (some false) (some 1) t127 h fun t128 _=>
ai Pg .add 3 true x1 (.sc (.int .i64 1)) fun t130=>
ai Pg .add 3 true x1 (.sc (.int .i64 1)) fun t131=>
ah (some 4) x5 fun t132=>
ao (some false) (some 1) t132 h fun t133 _=>
ai Pg .add 3 false t131 t133 fun t135=>
cN (some ([.string ⟨#[]⟩,.slice none 0 0,.int .i64 0,.int .i64 0,.int .i64 0,.int .i64 0,.bool false],.inl [(0,1),(1,1),(2,1),(3,1),(4,1),(5,1),(6,1)])) [(0,t128),(2,t130),(3,t135),(4,(.sc (.int .i64 1))),(6,(.sc (.bool true)))] fun t136=>
bx (some [.string ⟨#[]⟩,.slice none 0 0,.int .i64 0,.int .i64 0,.int .i64 0,.int .i64 0,.bool false]) 7 97 h fun t137 abi=>
aD (some 7) t137 t136 abi W fun abh=>
dn W R N E P x0 x1 x5 t137 abh
def dZ:N2:=fun W R _ _ P x0 x1 h=>
aq Pg W 40 [x0,x1,(.sc (.int .i64 111))] h (fun t140 Gn=>
R [t140] Gn) P
def eC:N4:=fun W R N E P x0 x1 x5 pj h=>
aF pj (
dZ W R N E P x0 x1 h) (
dS W R N E P x0 x1 x5 h)
def fl:N3:=fun W R N E P x0 x1 x5 h=>
ah (some 2) x5 fun t142=>
ao (some false) (some 1) t142 h fun t143 _=>
(aY t143=false)/\bL t143 fun t145=>
ai Pg .eql 3 true t145 (.sc (.int .i64 0)) fun t146=>
eC W R N E P x0 x1 x5 t146 h
def fM:N4:=fun W R N E P x0 x1 x5 Zh h=>
aF Zh (
b5 W R N E P x0 x1 x5 h) (
fl W R N E P x0 x1 x5 h)
def fu:N4:=fun W R N E P x0 x1 x5 oR h=>
ai Pg .eql 9 true oR (.sc (.string ⟨#[98,105,116,115]⟩)) fun t147=>
fM W R N E P x0 x1 x5 t147 h
def fD:N5:=fun W R N E P x0 x1 x5 oR A3 h=>
aF A3 (
n9 W R N E P x0 x1 x5 h) (
fu W R N E P x0 x1 x5 oR h)
def fL:N4:=fun W R N E P x0 x1 x5 oR h=>
ai Pg .eql 9 true oR (.sc (.string ⟨#[113,117,98,105,116,115]⟩)) fun t148=>
fD W R N E P x0 x1 x5 oR t148 h
def fk:N3:=fun W R N E P x0 x1 x5 h=>
ah (some 0) x5 fun t149=>
ao (some false) (some 1) t149 h fun t150 _=>
fL W R N E P x0 x1 x5 t150 h
def fQ:N2:=fun W R _ _ P x0 x1 h=>
aq Pg W 40 [x0,x1,(.sc (.int .i64 110))] h (fun t152 abc=>
R [t152] abc) P
def e_:N4:=fun W R N E P x0 x1 x5 nZ h=>
aF nZ (
fQ W R N E P x0 x1 h) (
fk W R N E P x0 x1 x5 h)
def gf:N3:=fun W R N E P x0 x1 x5 h=>
ah (some 1) x5 fun t154=>
ao (some false) (some 1) t154 h fun t155 _=>
aq Pg W 93 [x0,t155] h (fun t157 NX=>
e_ W R N E P x0 x1 x5 t157 NX) P
def fZ:N2:=fun W R N E P x0 x1 h=>
aH x0 fun t159=>
ah (some 0) t159 fun t160=>
ao (some false) (some 1) t160 h fun t161 _=>
bB (some (6,none)) t161 x1 fun t163=>
ao (some true) (some 6) t163 h fun t164 _=>
bx (some [.string ⟨#[]⟩,.string ⟨#[]⟩,.slice none 0 0,.int .i64 0,.int .i64 0,.int .i64 0]) 6 87 h fun t166 aa9=>
aD (some 6) t166 t164 aa9 W fun aa8=>
gf W R N E P x0 x1 t166 aa8
def fC:N2:=fun W R N E P x0 x1 h=>
fZ W R N E P x0 x1 h
theorem aM{x0 x1:AV}{h:AH}{M:WK}{R:RK}(hp:fC (fun id=>M id\/h.next<=id) (aJ Pg [.tmp 4] R) (aJ Pg [.tmp 4] R) (fun _ _ _=>False) (fun v h=>R (.bW v) h) x0 x1 h):aA Pg 72 [x0,x1] h M R:=
 fin (n:=159) (pl:=[(13,⟨[(none,(fr 0 12))],false,[],[]⟩),(16,⟨[(none,(fr 0 11))],false,[],[]⟩),(23,⟨[(none,(fr 0 16))],false,[],[]⟩),(30,⟨[(none,(fr 0 16))],false,[],[]⟩)]) (rs:=[.tmp 4]) (L:=rs) (fun c=>(a2 fC 0 1 c)) Tryz.mixed Tryz.func72 (fun c=>
(sq (a2 fC 0 1 c)
(sq (a2 fZ 0 1 c)
(sn
(sn
(sl (a0 n1 c))
(sq (a3 fk 0 1 5 c)
(bk 0 (sq (a4 fL 0 1 5 25 c)
(cd (a5 fD 0 1 5 25 87 c) (sn
(sq (a3 n6 0 1 5 c)
(sn
(sm (a3 n2 0 5 6 c))
(sq (a4 n5 0 1 5 6 c)
(cd (a5 n4 0 1 5 6 104 c) (sl (a2 n3 0 1 c)) tr))))
(sq (a3 n9 0 1 5 c)
(cd (a4 n8 0 1 5 91 c) (sl (a2 n7 0 1 c)) tr))) (sq (a4 fu 0 1 5 25 c)
(cd (a4 fM 0 1 5 123 c) (sn
(sq (a3 bP 0 1 5 c)
(sn
(sm (a3 aS 0 5 7 c))
(sq (a4 bH 0 1 5 7 c)
(cd (a5 a_ 0 1 5 7 140 c) (sl (a2 bj 0 1 c)) tr))))
(sq (a3 b5 0 1 5 c)
(cd (a4 bR 0 1 5 127 c) (sl (a2 bV 0 1 c)) tr))) (sn
(sq (a3 dS 0 1 5 c)
(sn
(sn
(sm (a2 ck 0 8 c))
(sq (a3 cT 0 1 8 c)
(cd (a4 cP 0 1 8 73 c) (sl (a2 cp 0 1 c)) tr)))
(sq (a4 dn 0 1 5 8 c)
(bk 1 (lp [0,1,5,8,9] rs [(1,[0,1,8]),(0,[])] (a5 cU 0 1 5 8 9 c) cG (fun i vs h=>if i=1 then cT c.W c.R c.N c.E c.P (vs.getD 0 ab) (vs.getD 1 ab) (vs.getD 2 ab) h else if i=0 then n1 c.W c.R c.N c.E c.P h else c.E i vs h) (.b (.t (.b (.t .o)))) fun c=>
(sn
(sn
(sm (a5 cw 0 1 5 8 9 c))
(bk 2 (sn
(sm (a5 cL 0 1 5 8 9 c))
(sq (a5 cC 0 1 5 8 9 c)
(cd (a6 cF 0 1 5 8 9 56 c) (sl (a2 cS 0 1 c)) tr)))))
(sq (a5 c9 0 1 5 8 9 c)
(cd (a6 cB 0 1 5 8 9 47 c) tr tr))))))))
(sq (a3 fl 0 1 5 c)
(cd (a4 eC 0 1 5 29 c) (sl (a2 dZ 0 1 c)) tr))))))))))
(sq (a3 gf 0 1 5 c)
(cd (a4 e_ 0 1 5 20 c) (sl (a2 fQ 0 1 c)) tr)))))) hp
attribute [simp] n1 n2 n3 n4 n5 n6 n7 n8 n9 aS bj a_ bH bP bV bR b5 ck cp cP cT cw cL cS cF cC cB c9 dn dS dZ eC fl fM fu fD fL fk fQ e_ gf fZ fC
end eh
namespace cD
abbrev rs:List Nat:=[6]
def n1:N0:=fun _ R _ _ _ h=>
R [(.sc (.bool true))] h
def n2:N2:=fun W R _ _ P x0 x1 h=>
aq Pg W 40 [x0,x1,(.sc (.int .i64 102))] h (fun t1 h2=>
R [t1] h2) P
def n3:N3:=fun W R N E P x0 x1 Y0 h=>
aF Y0 (
n2 W R N E P x0 x1 h) (
n1 W R N E P h)
def n4:N3:=fun W R N E P x0 x1 ax h=>
ai Pg .add 3 true ax (.sc (.int .i64 1)) fun t3=>
ai Pg .gtr 3 true t3 (.sc (.int .i64 32)) fun t4=>
n3 W R N E P x0 x1 t4 h
def n5:N4:=fun W R N E P x0 x1 x2 ax h=>
aH x0 fun t5=>
ah (some 3) t5 fun t6=>
ao (some false) (some 1) t6 h fun t7 _=>
ai Pg .add 3 true ax (.sc (.int .i64 1)) fun t9=>
bB (some (7,none)) t7 x2 fun t10=>
ah (some 4) t10 fun t11=>
aD (some 1) t11 t9 h W fun rX=>
n4 W R N E P x0 x1 ax rX
def n6:N5:=fun W R N E P x0 x1 x2 ax Y4 h=>
aF Y4 (
n5 W R N E P x0 x1 x2 ax h) (
n1 W R N E P h)
def n7:N6:=fun W R N E P x0 x1 x2 ax EQ Y5 h=>
aO EQ Y5 (.sc (.bool false)) fun t13=>
n6 W R N E P x0 x1 x2 ax t13 h
def n8:N5:=fun W R N E P x0 x1 x2 ax EQ h=>
bw true EQ (
ai Pg .add 3 true ax (.sc (.int .i64 1)) fun t14=>
aH x0 fun t15=>
ah (some 3) t15 fun t16=>
ao (some false) (some 1) t16 h fun t17 _=>
bB (some (7,none)) t17 x2 fun t19=>
ah (some 4) t19 fun t20=>
ao (some false) (some 1) t20 h fun t21 _=>
ai Pg .gtr 3 false t14 t21 fun t23=>
n7 W R N E P x0 x1 x2 ax EQ t23 h) (
n7 W R N E P x0 x1 x2 ax EQ ab h)
def n9:N4:=fun W R N E P x0 x1 x2 ax h=>
ai Pg .geq 3 true x2 (.sc (.int .i64 0)) fun t24=>
n8 W R N E P x0 x1 x2 ax t24 h
def aS:N7:=fun _ _ N _ _ x0 x1 x2 x7 x9 ax bg h=>
ai Pg .add 3 true bg (.sc (.int .i64 1)) fun t25=>
N [x0,x1,x2,x7,x9,ax,t25] h
def bj:N8:=fun _ _ N _ _ x0 x1 x2 x7 x9 ax bg aX h=>
ai Pg .add 3 true aX (.sc (.int .i64 1)) fun t26=>
N [x0,x1,x2,x7,x9,ax,bg,t26] h
def a_:N2:=fun W R _ _ P x0 x1 h=>
aq Pg W 40 [x0,x1,(.sc (.int .i64 113))] h (fun t27 qc=>
R [t27] qc) P
def bH:N9:=fun W R N E P x0 x1 x2 x7 x9 ax bg aX Y9 h=>
aF Y9 (
a_ W R N E P x0 x1 h) (
bj W R N E P x0 x1 x2 x7 x9 ax bg aX h)
def bP:N8:=fun W R N E P x0 x1 x2 x7 x9 ax bg aX h=>
ah (some 2) x7 fun t29=>
ao (some false) (some 1) t29 h fun t30 _=>
bB (some (2,none)) t30 bg fun t32=>
ao (some true) (some 2) t32 h fun t33 _=>
ah (some 2) x7 fun t35=>
ao (some false) (some 1) t35 h fun t36 _=>
bB (some (2,none)) t36 aX fun t38=>
ao (some true) (some 2) t38 h fun t39 _=>
ai Pg .eql 92 false t33 t39 fun t41=>
bH W R N E P x0 x1 x2 x7 x9 ax bg aX t41 h
def bV:N9:=fun W R N E P x0 x1 x2 x7 x9 ax bg aX Zb h=>
aF Zb (
bP W R N E P x0 x1 x2 x7 x9 ax bg aX h) (
E 4 [x0,x1,x2,x7,x9,ax,bg] h)
def bR:N8:=fun W R N E P x0 x1 x2 x7 x9 ax bg aX h=>
ai Pg .lss 3 false aX bg fun t42=>
bV W R N E P x0 x1 x2 x7 x9 ax bg aX t42 h
def iX:GK:=fun W R N E P N' vs h=>bR W R N' (fun(i:Nat) (vs:List AV) (h:AH)=>if i=4 then aS W R N E P (vs.getD 0 ab) (vs.getD 1 ab) (vs.getD 2 ab) (vs.getD 3 ab) (vs.getD 4 ab) (vs.getD 5 ab) (vs.getD 6 ab) h else if i=3 then aS W R N E P (vs.getD 0 ab) (vs.getD 1 ab) (vs.getD 2 ab) (vs.getD 3 ab) (vs.getD 4 ab) (vs.getD 5 ab) (vs.getD 6 ab) h else E i vs h) P (vs.getD 0 ab) (vs.getD 1 ab) (vs.getD 2 ab) (vs.getD 3 ab) (vs.getD 4 ab) (vs.getD 5 ab) (vs.getD 6 ab) (vs.getD 7 ab) h
def b5:N8:=fun W R N E P x0 x1 x2 x7 x9 ax bg aX h=>
dK (iX W R N E P) [x0,x1,x2,x7,x9,ax,bg,aX] h
def ck:N7:=fun W R N E P x0 x1 x2 x7 x9 ax bg h=>
b5 W R N E P x0 x1 x2 x7 x9 ax bg (.sc (.int .i64 0)) h
def cp:N8:=fun W R N E P x0 x1 x2 x7 x9 ax bg Zd h=>
aF Zd (
ck W R N E P x0 x1 x2 x7 x9 ax bg h) (
E 2 [x0,x1,x2,ax] h)
def cP:N7:=fun W R N E P x0 x1 x2 x7 x9 ax bg h=>
ai Pg .lss 3 false bg x9 fun t43=>
cp W R N E P x0 x1 x2 x7 x9 ax bg t43 h
def cG:GK:=fun W R N E P N' vs h=>cP W R N' (fun(i:Nat) (vs:List AV) (h:AH)=>if i=2 then n9 W R N E P (vs.getD 0 ab) (vs.getD 1 ab) (vs.getD 2 ab) (vs.getD 3 ab) h else E i vs h) P (vs.getD 0 ab) (vs.getD 1 ab) (vs.getD 2 ab) (vs.getD 3 ab) (vs.getD 4 ab) (vs.getD 5 ab) (vs.getD 6 ab) h
def cT:N7:=fun W R N E P x0 x1 x2 x7 x9 ax bg h=>
dK (cG W R N E P) [x0,x1,x2,x7,x9,ax,bg] h
def cw:N6:=fun W R N E P x0 x1 x2 x7 x9 ax h=>
cT W R N E P x0 x1 x2 x7 x9 ax (.sc (.int .i64 0)) h
def cL:N7:=fun _ _ N _ _ x0 x1 x2 x7 x9 ax ay h=>
ai Pg .add 3 true ay (.sc (.int .i64 1)) fun t44=>
N [x0,x1,x2,x7,x9,ax,t44] h
def cS:N2:=fun W R _ _ P x0 x1 h=>
aq Pg W 40 [x0,x1,(.sc (.int .i64 110))] h (fun t45 zu=>
R [t45] zu) P
def cF:N8:=fun W R N E P x0 x1 x2 x7 x9 ax ay MG h=>
aF MG (
cS W R N E P x0 x1 h) (
cL W R N E P x0 x1 x2 x7 x9 ax ay h)
def cC:N8:=fun W R N E P x0 x1 x2 x7 x9 ax ay aG h=>
aH x0 fun t47=>
ah (some 3) t47 fun t48=>
ao (some false) (some 1) t48 h fun t49 _=>
bB (some (7,none)) t49 x2 fun t51=>
ah (some 1) t51 fun t52=>
ao (some false) (some 1) t52 h fun t53 _=>
ah (some 0) aG fun t55=>
ao (some false) (some 1) t55 h fun t56 _=>
aq Pg pT 95 [t53,t56] h (fun t58 xY=>
ai Pg .lss 3 true t58 (.sc (.int .i64 0)) fun t60=>
cF W R N E P x0 x1 x2 x7 x9 ax ay t60 xY) P
def cB:N2:=fun W R _ _ P x0 x1 h=>
aq Pg W 40 [x0,x1,(.sc (.int .i64 112))] h (fun t61 Cd=>
R [t61] Cd) P
def c9:N9:=fun W R N E P x0 x1 x2 x7 x9 ax ay aG MJ h=>
aF MJ (
cB W R N E P x0 x1 h) (
cC W R N E P x0 x1 x2 x7 x9 ax ay aG h)
def cU:N8:=fun W R N E P x0 x1 x2 x7 x9 ax ay aG h=>
ah (some 1) aG fun t63=>
ao (some false) (some 1) t63 h fun t64 _=>
ai Pg .neq 3 true t64 (.sc (.int .i64 (-1))) fun t66=>
c9 W R N E P x0 x1 x2 x7 x9 ax ay aG t66 h
def dn:N7:=fun W R N E P x0 x1 x2 x7 x9 ax ay h=>
cL W R N E P x0 x1 x2 x7 x9 ax ay h
def dS:N0:=fun _ R _ _ _ h=>
R [(.sc (.bool false))] h
def dZ:N8:=fun W R N E P x0 x1 x2 x7 x9 ax ay MK h=>
aF MK (
dS W R N E P h) (
dn W R N E P x0 x1 x2 x7 x9 ax ay h)
def eC:N8:=fun W R N E P x0 x1 x2 x7 x9 ax ay aG h=>
ao (some true) (some 2) aG h fun t67 _=>
aH x0 fun t69=>
ah (some 1) t69 fun t70=>
ao (some false) (some 1) t70 h fun t71 _=>
aq Pg W 74 [x0,x1,t67,t71] h (fun t73 Cc=>
iH .not t73 fun t75=>
dZ W R N E P x0 x1 x2 x7 x9 ax ay t75 Cc) P
def fl:N9:=fun W R N E P x0 x1 x2 x7 x9 ax ay aG jE h=>
aF jE (
eC W R N E P x0 x1 x2 x7 x9 ax ay aG h) (
cU W R N E P x0 x1 x2 x7 x9 ax ay aG h)
def fM:N8:=fun W R N E P x0 x1 x2 x7 x9 ax ay aG h=>
ai Pg .lss 3 true x2 (.sc (.int .i64 0)) fun t76=>
fl W R N E P x0 x1 x2 x7 x9 ax ay aG t76 h
def fu:N7:=fun W R N E P x0 x1 x2 x7 x9 ax ay h=>
ah (some 2) x7 fun t77=>
ao (some false) (some 1) t77 h fun t78 _=>
bB (some (2,none)) t78 ay fun t80=>
ao (some true) (some 2) t80 h fun t81 _=>
bx (some [.string ⟨#[]⟩,.int .i64 0]) 2 92 h fun t83 Gc=>
aD (some 2) t83 t81 Gc W fun ri=>
fM W R N E P x0 x1 x2 x7 x9 ax ay t83 ri
def fD:N8:=fun W R N E P x0 x1 x2 x7 x9 ax ay JV h=>
aF JV (
fu W R N E P x0 x1 x2 x7 x9 ax ay h) (
E 0 [x0,x1,x2,x7,x9,ax] h)
def fL:N7:=fun W R N E P x0 x1 x2 x7 x9 ax ay h=>
ai Pg .lss 3 false ay x9 fun t86=>
fD W R N E P x0 x1 x2 x7 x9 ax ay t86 h
def pL:GK:=fun W R N E P N' vs h=>fL W R N' (fun(i:Nat) (vs:List AV) (h:AH)=>if i=0 then cw W R N E P (vs.getD 0 ab) (vs.getD 1 ab) (vs.getD 2 ab) (vs.getD 3 ab) (vs.getD 4 ab) (vs.getD 5 ab) h else E i vs h) P (vs.getD 0 ab) (vs.getD 1 ab) (vs.getD 2 ab) (vs.getD 3 ab) (vs.getD 4 ab) (vs.getD 5 ab) (vs.getD 6 ab) h
def fk:N7:=fun W R N E P x0 x1 x2 x7 x9 ax ay h=>
dK (pL W R N E P) [x0,x1,x2,x7,x9,ax,ay] h
def fQ:N6:=fun W R N E P x0 x1 x2 x7 x9 ax h=>
fk W R N E P x0 x1 x2 x7 x9 ax (.sc (.int .i64 0)) h
def e_:N2:=fun W R _ _ P x0 x1 h=>
aq Pg W 40 [x0,x1,(.sc (.int .i64 111))] h (fun t87 LC=>
R [t87] LC) P
def gf:N7:=fun W R N E P x0 x1 x2 x7 x9 ax uE h=>
aF uE (
e_ W R N E P x0 x1 h) (
fQ W R N E P x0 x1 x2 x7 x9 ax h)
def fZ:N6:=fun W R N E P x0 x1 x2 x7 x9 ax h=>
ah (some 2) x7 fun t89=>
ao (some false) (some 1) t89 h fun t90 _=>
(aY t90=false)/\bL t90 fun t92=>
ai Pg .neq 3 false t92 x9 fun t93=>
gf W R N E P x0 x1 x2 x7 x9 ax t93 h
def fC:N5:=fun W R N E P x0 x1 x2 x7 x8 h=>
aH x0 fun t94=>
ah (some 3) t94 fun t95=>
ao (some false) (some 1) t95 h fun t96 _=>
bB (some (7,none)) t96 x8 fun t98=>
ah (some 1) t98 fun t99=>
ao (some false) (some 1) t99 h fun t100 _=>
(aY t100=false)/\bL t100 fun t102=>
aH x0 fun t103=>
ah (some 3) t103 fun t104=>
ao (some false) (some 1) t104 h fun t105 _=>
bB (some (7,none)) t105 x8 fun t107=>
ah (some 4) t107 fun t108=>
ao (some false) (some 1) t108 h fun t109 _=>
fZ W R N E P x0 x1 x2 x7 t102 t109 h
def jd:N2:=fun W R _ _ P x0 x1 h=>
aq Pg W 40 [x0,x1,(.sc (.int .i64 80))] h (fun t111 Gr=>
R [t111] Gr) P
def gI:N6:=fun W R N E P x0 x1 x2 x7 x8 uF h=>
aF uF (
jd W R N E P x0 x1 h) (
fC W R N E P x0 x1 x2 x7 x8 h)
def lc:N7:=fun W R N E P x0 x1 x2 x7 x8 pi wZ h=>
aO pi (.sc (.bool true)) wZ fun t113=>
gI W R N E P x0 x1 x2 x7 x8 t113 h
def jH:N6:=fun W R N E P x0 x1 x2 x7 x8 pi h=>
bw false pi (
aH x0 fun t114=>
ah (some 3) t114 fun t115=>
ao (some false) (some 1) t115 h fun t116 _=>
bB (some (7,none)) t116 x8 fun t118=>
ah (some 6) t118 fun t119=>
ao (some false) (some 1) t119 h fun t120 _=>
lc W R N E P x0 x1 x2 x7 x8 pi t120 h) (
lc W R N E P x0 x1 x2 x7 x8 pi ab h)
def gQ:N5:=fun W R N E P x0 x1 x2 x7 x8 h=>
ai Pg .lss 3 true x8 (.sc (.int .i64 0)) fun t122=>
jH W R N E P x0 x1 x2 x7 x8 t122 h
def mh:N8:=fun W R N E P x0 x1 x2 x7 x8 x9 ax fY h=>
aF fY (
gQ W R N E P x0 x1 x2 x7 x8 h) (
fZ W R N E P x0 x1 x2 x7 x9 ax h)
def pr:N7:=fun W R N E P x0 x1 x2 x7 x8 x9 ax h=>
ai Pg .eql 3 true x9 (.sc (.int .i64 0)) fun t123=>
mh W R N E P x0 x1 x2 x7 x8 x9 ax t123 h
def oV:N5:=fun W R N E P x0 x1 x2 x7 x8 h=>
ah (some 1) x7 fun t124=>
ao (some false) (some 1) t124 h fun t125 _=>
aq Pg W 76 [t125] h (fun t127 abm=>
pr W R N E P x0 x1 x2 x7 x8 t127 (.sc (.int .i64 0)) abm) P
def jW:N4:=fun W R N E P x0 x1 x2 x7 h=>
ah (some 1) x7 fun t129=>
ao (some false) (some 1) t129 h fun t130 _=>
aq Pg W 75 [x0,t130] h (fun t132 NZ=>
oV W R N E P x0 x1 x2 x7 t132 NZ) P
def nL:N2:=fun W R _ _ P x0 x1 h=>
aq Pg W 40 [x0,x1,(.sc (.int .i64 114))] h (fun t134 abk=>
R [t134] abk) P
def rM:N5:=fun W R N E P x0 x1 x2 x7 lb h=>
aF lb (
nL W R N E P x0 x1 h) (
jW W R N E P x0 x1 x2 x7 h)
def uM:N6:=fun W R N E P x0 x1 x2 x7 kl pS h=>
aO kl pS (.sc (.bool false)) fun t136=>
rM W R N E P x0 x1 x2 x7 t136 h
def KO:N5:=fun W R N E P x0 x1 x2 x7 kl h=>
bw true kl (
aH x0 fun t137=>
ah (some 3) t137 fun t138=>
ao (some false) (some 1) t138 h fun t139 _=>
bB (some (7,none)) t139 x2 fun t141=>
ah (some 0) t141 fun t142=>
ao (some false) (some 1) t142 h fun t143 _=>
ah (some 1) x7 fun t145=>
ao (some false) (some 1) t145 h fun t146 _=>
ai Pg .eql 9 false t143 t146 fun t148=>
uM W R N E P x0 x1 x2 x7 kl t148 h) (
uM W R N E P x0 x1 x2 x7 kl ab h)
def DJ:N4:=fun W R N E P x0 x1 x2 x7 h=>
ai Pg .geq 3 true x2 (.sc (.int .i64 0)) fun t149=>
KO W R N E P x0 x1 x2 x7 t149 h
def BC:N3:=fun W R N E P x0 x1 x2 h=>
aH x0 fun t150=>
ah (some 0) t150 fun t151=>
ao (some false) (some 1) t151 h fun t152 _=>
bB (some (6,none)) t152 x1 fun t154=>
ao (some true) (some 6) t154 h fun t155 _=>
bx (some [.string ⟨#[]⟩,.string ⟨#[]⟩,.slice none 0 0,.int .i64 0,.int .i64 0,.int .i64 0]) 6 87 h fun t157 NX=>
aD (some 6) t157 t155 NX W fun Gm=>
DJ W R N E P x0 x1 x2 t157 Gm
def KN:N3:=fun W R N E P x0 x1 x2 h=>
BC W R N E P x0 x1 x2 h
theorem aM{x0 x1 x2:AV}{h:AH}{M:WK}{R:RK}(hp:KN (fun id=>M id\/h.next<=id) (aJ Pg [.tmp 6] R) (aJ Pg [.tmp 6] R) (fun _ _ _=>False) (fun v h=>R (.bW v) h) x0 x1 x2 h):aA Pg 73 [x0,x1,x2] h M R:=
 fin (n:=185) (pl:=[(2,⟨[(none,(fr 0 3)),(some (2,true),(fr 3 11)),(none,(fr 14 1))],false,[],[]⟩),(7,⟨[(none,(fr 0 3)),(some (2,false),(fr 3 8)),(none,(fr 11 1))],false,[],[]⟩),(9,⟨[(none,(fr 0 19))],false,[],[]⟩),(17,⟨[(none,(fr 0 9))],false,[],[]⟩),(21,⟨[(none,(fr 0 12))],false,[],[10]⟩),(29,⟨[(none,(fr 0 11))],false,[],[]⟩),(31,⟨[(none,(fr 0 3)),(some (2,true),(fr 3 11)),(none,(fr 14 1))],false,[],[]⟩)]) (rs:=[.tmp 6]) (L:=rs) (fun c=>(a3 KN 0 1 2 c)) Tryz.mixed Tryz.func73 (fun c=>
(sq (a3 KN 0 1 2 c)
(sq (a3 BC 0 1 2 c)
(sn
(sq (a4 jW 0 1 2 7 c)
(sq (a5 oV 0 1 2 7 8 c)
(sn
(sn
(sn
(sn
(sn
(sl (a0 n1 c))
(sn
(cd (a5 n6 0 1 2 10 169 c) (sq (a4 n5 0 1 2 10 c)
(sq (a3 n4 0 1 10 c)
(cd (a3 n3 0 1 181 c) (sl (a2 n2 0 1 c)) tr))) tr)
(gr (gn (a4 n9 0 1 2 10 c) (gx (a5 n8 0 1 2 10 157 c) (gl (a6 n7 0 1 2 10 157 168 c)))))))
(sq (a6 cw 0 1 2 7 9 10 c)
(bk 2 (lp [0,1,2,7,9,10,13] rs [(2,[0,1,2,10])] (a7 cT 0 1 2 7 9 10 13 c) cG (fun i vs h=>if i=2 then n9 c.W c.R c.N c.E c.P (vs.getD 0 ab) (vs.getD 1 ab) (vs.getD 2 ab) (vs.getD 3 ab) h else c.E i vs h) (.b (.t .o)) fun c=>
(sn
(sn
(sm (a7 aS 0 1 2 7 9 10 13 c))
(bk 3 (sq (a7 ck 0 1 2 7 9 10 13 c)
(bk 4 (lp [0,1,2,7,9,10,13,14] rs [(4,[0,1,2,7,9,10,13]),(3,[0,1,2,7,9,10,13]),(2,[0,1,2,10])] (a8 b5 0 1 2 7 9 10 13 14 c) iX (fun i vs h=>if i=4 then aS c.W c.R c.N c.E c.P (vs.getD 0 ab) (vs.getD 1 ab) (vs.getD 2 ab) (vs.getD 3 ab) (vs.getD 4 ab) (vs.getD 5 ab) (vs.getD 6 ab) h else if i=3 then aS c.W c.R c.N c.E c.P (vs.getD 0 ab) (vs.getD 1 ab) (vs.getD 2 ab) (vs.getD 3 ab) (vs.getD 4 ab) (vs.getD 5 ab) (vs.getD 6 ab) h else c.E i vs h) (.b (.b (.t .o))) fun c=>
(sn
(sn
(sm (a8 bj 0 1 2 7 9 10 13 14 c))
(bk 5 (sq (a8 bP 0 1 2 7 9 10 13 14 c)
(cd (a9 bH 0 1 2 7 9 10 13 14 151 c) (sl (a2 a_ 0 1 c)) tr))))
(sq (a8 bR 0 1 2 7 9 10 13 14 c)
(cd (a9 bV 0 1 2 7 9 10 13 14 138 c) tr tr))))))))
(sq (a7 cP 0 1 2 7 9 10 13 c)
(cd (a8 cp 0 1 2 7 9 10 13 133 c) tr tr)))))))
(sq (a6 fQ 0 1 2 7 9 10 c)
(bk 0 (lp [0,1,2,7,9,10,11] rs [(0,[0,1,2,7,9,10])] (a7 fk 0 1 2 7 9 10 11 c) pL (fun i vs h=>if i=0 then cw c.W c.R c.N c.E c.P (vs.getD 0 ab) (vs.getD 1 ab) (vs.getD 2 ab) (vs.getD 3 ab) (vs.getD 4 ab) (vs.getD 5 ab) h else c.E i vs h) (.b (.t .o)) fun c=>
(sn
(sn
(sm (a7 cL 0 1 2 7 9 10 11 c))
(bk 1 (sq (a7 fu 0 1 2 7 9 10 11 c)
(sn
(sn
(sn
(cd (a8 cF 0 1 2 7 9 10 11 127 c) (sl (a2 cS 0 1 c)) tr)
(gr (gl (a8 cC 0 1 2 7 9 10 11 12 c))))
(sq (a8 cU 0 1 2 7 9 10 11 12 c)
(cd (a9 c9 0 1 2 7 9 10 11 12 112 c) (sl (a2 cB 0 1 c)) tr)))
(sq (a8 fM 0 1 2 7 9 10 11 12 c)
(cd (a9 fl 0 1 2 7 9 10 11 12 100 c) (sn
(sm (a7 dn 0 1 2 7 9 10 11 c))
(sq (a8 eC 0 1 2 7 9 10 11 12 c)
(cd (a8 dZ 0 1 2 7 9 10 11 109 c) (sl (a0 dS c)) tr))) tr))))))
(sq (a7 fL 0 1 2 7 9 10 11 c)
(cd (a8 fD 0 1 2 7 9 10 11 91 c) tr tr)))))))
(sq (a6 fZ 0 1 2 7 9 10 c)
(cd (a7 gf 0 1 2 7 9 10 85 c) (sl (a2 e_ 0 1 c)) tr)))
(sq (a7 pr 0 1 2 7 8 9 10 c)
(cd (a8 mh 0 1 2 7 8 9 10 48 c) (sn
(sm (a5 fC 0 1 2 7 8 c))
(sn
(cd (a6 gI 0 1 2 7 8 60 c) (sl (a2 jd 0 1 c)) tr)
(gr (gn (a5 gQ 0 1 2 7 8 c) (gx (a6 jH 0 1 2 7 8 51 c) (gl (a7 lc 0 1 2 7 8 51 59 c))))))) tr)))))
(sn
(cd (a5 rM 0 1 2 7 36 c) (sl (a2 nL 0 1 c)) tr)
(gr (gn (a4 DJ 0 1 2 7 c) (gx (a5 KO 0 1 2 7 24 c) (gl (a6 uM 0 1 2 7 24 35 c)))))))))) hp
attribute [simp] n1 n2 n3 n4 n5 n6 n7 n8 n9 aS bj a_ bH bP bV bR ck cp cP cw cL cS cF cC cB c9 cU dn dS dZ eC fl fM fu fD fL fQ e_ gf fZ fC jd gI lc jH gQ mh pr oV jW nL rM uM KO DJ BC KN
end cD
namespace oH
abbrev rs:List Nat:=[8]
def n1:N0:=fun _ R _ _ _ h=>
R [(.sc (.bool true))] h
def n2:N2:=fun W R _ _ P x0 x1 h=>
aq Pg W 40 [x0,x1,(.sc (.int .i64 112))] h (fun t1 h2=>
R [t1] h2) P
def n3:N3:=fun W R N E P x0 x1 gF h=>
aF gF (
n2 W R N E P x0 x1 h) (
n1 W R N E P h)
def n4:N4:=fun W R N E P x0 x1 EP w9 h=>
aO EP (.sc (.bool true)) w9 fun t3=>
n3 W R N E P x0 x1 t3 h
def n5:N6:=fun W R N E P x0 x1 x3 x6 x9 EP h=>
bw false EP (
ah (some 1) x6 fun t4=>
ao (some false) (some 1) t4 h fun t5 _=>
bB (some (3,none)) x3 x9 fun t7=>
ah (some 2) t7 fun t8=>
ao (some false) (some 1) t8 h fun t9 _=>
ai Pg .geq 3 false t5 t9 fun t11=>
n4 W R N E P x0 x1 EP t11 h) (
n4 W R N E P x0 x1 EP ab h)
def n6:N5:=fun W R N E P x0 x1 x3 x6 x9 h=>
ah (some 1) x6 fun t12=>
ao (some false) (some 1) t12 h fun t13 _=>
ai Pg .lss 3 true t13 (.sc (.int .i64 0)) fun t15=>
n5 W R N E P x0 x1 x3 x6 x9 t15 h
def n7:N2:=fun W R _ _ P x0 x1 h=>
aq Pg W 40 [x0,x1,(.sc (.int .i64 110))] h (fun t16 nR=>
R [t16] nR) P
def n8:N6:=fun W R N E P x0 x1 x3 x6 x9 bC h=>
aF bC (
n7 W R N E P x0 x1 h) (
n6 W R N E P x0 x1 x3 x6 x9 h)
def n9:N5:=fun W R N E P x0 x1 x3 x6 x9 h=>
ai Pg .lss 3 true x9 (.sc (.int .i64 0)) fun t18=>
n8 W R N E P x0 x1 x3 x6 x9 t18 h
def aS:N4:=fun W R N E P x0 x1 x3 x6 h=>
ah (some 0) x6 fun t19=>
ao (some false) (some 1) t19 h fun t20 _=>
aq Pg W 46 [x3,t20] h (fun t22 wQ=>
n9 W R N E P x0 x1 x3 x6 t22 wQ) P
def bj:N4:=fun W R N E P x0 x1 x2 x3 h=>
eR 2 92 x2 h fun t24 nQ=>
aS W R N E P x0 x1 x3 t24 nQ
theorem aM{x0 x1 x2 x3:AV}{h:AH}{M:WK}{R:RK}(hp:bj (fun id=>M id\/h.next<=id) (aJ Pg [.tmp 8] R) (aJ Pg [.tmp 8] R) (fun _ _ _=>False) (fun v h=>R (.bW v) h) x0 x1 x2 x3 h):aA Pg 74 [x0,x1,x2,x3] h M R:=
 fin (n:=35) (pl:=[(4,⟨[(none,(fr 0 4)),(some (3,false),(fr 4 8)),(none,(fr 12 1))],false,[],[]⟩)]) (rs:=[.tmp 8]) (L:=rs) (fun c=>(a4 bj 0 1 2 3 c)) Tryz.mixed Tryz.func74 (fun c=>
(sq (a4 bj 0 1 2 3 c)
(sq (a4 aS 0 1 3 6 c)
(sn
(sn
(sl (a0 n1 c))
(sn
(cd (a3 n3 0 1 31 c) (sl (a2 n2 0 1 c)) tr)
(gr (gn (a5 n6 0 1 3 6 9 c) (gx (a6 n5 0 1 3 6 9 22 c) (gl (a4 n4 0 1 22 30 c)))))))
(sq (a5 n9 0 1 3 6 9 c)
(cd (a6 n8 0 1 3 6 9 15 c) (sl (a2 n7 0 1 c)) tr)))))) hp
attribute [simp] n1 n2 n3 n4 n5 n6 n7 n8 n9 aS bj
end oH
namespace tl
abbrev rs:List Nat:=[4]
def n1:N0:=fun _ R _ _ _ h=>
R [(.sc (.int .i64 (-1)))] h
def n2:N3:=fun _ _ N _ _ x0 x1 x5 h=>
ai Pg .add 3 true x5 (.sc (.int .i64 1)) fun t1=>
N [x0,x1,t1] h
def n3:N1:=fun _ R _ _ _ x5 h=>
R [x5] h
def n4:N4:=fun W R N E P x0 x1 x5 kl h=>
aF kl (
n3 W R N E P x5 h) (
n2 W R N E P x0 x1 x5 h)
def n5:N3:=fun W R N E P x0 x1 x5 h=>
aH x0 fun t2=>
ah (some 3) t2 fun t3=>
ao (some false) (some 1) t3 h fun t4 _=>
bB (some (7,none)) t4 x5 fun t6=>
ah (some 0) t6 fun t7=>
ao (some false) (some 1) t7 h fun t8 _=>
ai Pg .eql 9 false t8 x1 fun t10=>
n4 W R N E P x0 x1 x5 t10 h
def n6:N4:=fun W R N E P x0 x1 x5 aG h=>
aF aG (
n5 W R N E P x0 x1 x5 h) (
E 0 [] h)
def n7:N3:=fun W R N E P x0 x1 x5 h=>
aH x0 fun t11=>
ah (some 3) t11 fun t12=>
ao (some false) (some 1) t12 h fun t13 _=>
(aY t13=false)/\bL t13 fun t15=>
ai Pg .lss 3 false x5 t15 fun t16=>
n6 W R N E P x0 x1 x5 t16 h
def cG:GK:=fun W R N E P N' vs h=>n7 W R N' (fun(i:Nat) (vs:List AV) (h:AH)=>if i=0 then n1 W R N E P h else E i vs h) P (vs.getD 0 ab) (vs.getD 1 ab) (vs.getD 2 ab) h
def n8:N3:=fun W R N E P x0 x1 x5 h=>
dK (cG W R N E P) [x0,x1,x5] h
def n9:N2:=fun W R N E P x0 x1 h=>
n8 W R N E P x0 x1 (.sc (.int .i64 0)) h
def aS:N2:=fun W R N E P x0 x1 h=>
n9 W R N E P x0 x1 h
theorem aM{x0 x1:AV}{h:AH}{M:WK}{R:RK}(hp:aS (fun id=>M id\/h.next<=id) (aJ Pg [.tmp 4] R) (aJ Pg [.tmp 4] R) (fun _ _ _=>False) (fun v h=>R (.bW v) h) x0 x1 h):aA Pg 75 [x0,x1] h M R:=
 fin (n:=26) (pl:=[]) (rs:=[.tmp 4]) (L:=rs) (fun c=>(a2 aS 0 1 c)) Tryz.mixed Tryz.func75 (fun c=>
(sq (a2 aS 0 1 c)
(sn
(sl (a0 n1 c))
(sq (a2 n9 0 1 c)
(bk 0 (lp [0,1,5] rs [(0,[])] (a3 n8 0 1 5 c) cG (fun i vs h=>if i=0 then n1 c.W c.R c.N c.E c.P h else c.E i vs h) (.b (.t .o)) fun c=>
(sn
(sn
(sm (a3 n2 0 1 5 c))
(bk 1 (sq (a3 n5 0 1 5 c)
(cd (a4 n4 0 1 5 24 c) (sl (a1 n3 5 c)) tr))))
(sq (a3 n7 0 1 5 c)
(cd (a4 n6 0 1 5 12 c) tr tr))))))))) hp
attribute [simp] n1 n2 n3 n4 n5 n6 n7 n9 aS
end tl
namespace kG
abbrev rs:List Nat:=[4]
def n1:N1:=fun _ R _ _ _ x4 h=>
R [x4] h
def n2:N2:=fun W R N E P uG w9 h=>
aO uG (.sc (.bool true)) w9 fun t1=>
n1 W R N E P t1 h
def n3:N3:=fun W R N E P x0 x1 uG h=>
bw false uG (
aq Pg W 75 [x0,x1] h (fun t2 h3=>
ai Pg .geq 3 true t2 (.sc (.int .i64 0)) fun t4=>
n2 W R N E P uG t4 h3) P) (
n2 W R N E P uG ab h)
def n4:N4:=fun W R N E P x0 x1 dm kl h=>
aO dm (.sc (.bool true)) kl fun t5=>
n3 W R N E P x0 x1 t5 h
def n5:N3:=fun W R N E P x0 x1 dm h=>
bw false dm (
aH x0 fun t6=>
ah (some 2) t6 fun t7=>
ao (some false) (some 1) t7 h fun t8 _=>
aq Pg W 46 [t8,x1] h (fun t10 mO=>
ai Pg .geq 3 true t10 (.sc (.int .i64 0)) fun t12=>
n4 W R N E P x0 x1 dm t12 mO) P) (
n4 W R N E P x0 x1 dm ab h)
def n6:N4:=fun W R N E P x0 x1 x8 bC h=>
aO x8 (.sc (.bool true)) bC fun t13=>
n5 W R N E P x0 x1 t13 h
def n7:N3:=fun W R N E P x0 x1 x8 h=>
bw false x8 (
aH x0 fun t14=>
ah (some 1) t14 fun t15=>
ao (some false) (some 1) t15 h fun t16 _=>
aq Pg W 46 [t16,x1] h (fun t18 mM=>
ai Pg .geq 3 true t18 (.sc (.int .i64 0)) fun t20=>
n6 W R N E P x0 x1 x8 t20 mM) P) (
n6 W R N E P x0 x1 x8 ab h)
def n8:N2:=fun W R N E P x0 x1 h=>
aq Pg W 76 [x1] h (fun t21 sT=>
ai Pg .gtr 3 true t21 (.sc (.int .i64 0)) fun t23=>
n7 W R N E P x0 x1 t23 sT) P
def n9:N2:=fun W R N E P x0 x1 h=>
n8 W R N E P x0 x1 h
theorem aM{x0 x1:AV}{h:AH}{M:WK}{R:RK}(hp:n9 (fun id=>M id\/h.next<=id) (aJ Pg [.tmp 4] R) (aJ Pg [.tmp 4] R) (fun _ _ _=>False) (fun v h=>R (.bW v) h) x0 x1 h):aA Pg 93 [x0,x1] h M R:=
 fin (n:=32) (pl:=[(1,⟨[(none,(fr 0 4)),(some (3,false),(fr 4 7)),(none,(fr 11 2)),(some (12,false),(fr 13 7)),(none,(fr 20 2)),(some (21,false),(fr 22 4)),(none,(fr 26 2))],false,[],[]⟩)]) (rs:=[.tmp 4]) (L:=rs) (fun c=>(a2 n9 0 1 c)) Tryz.mixed Tryz.func93 (fun c=>
(sq (a2 n9 0 1 c)
(sn
(sm (a1 n1 4 c))
(gr (gn (a2 n8 0 1 c) (gx (a3 n7 0 1 8 c) (gn (a4 n6 0 1 8 15 c) (gx (a3 n5 0 1 17 c) (gn (a4 n4 0 1 17 24 c) (gx (a3 n3 0 1 26 c) (gl (a2 n2 26 30 c)))))))))))) hp
attribute [simp] n1 n2 n3 n4 n5 n6 n7 n8 n9
end kG
namespace nT
abbrev rs:List Nat:=[2]
def n1:N0:=fun _ R _ _ _ h=>
R [(.sc (.bool false))] h
def n2:N2:=fun _ _ N _ _ x0 x3 h=>
ai Pg .add 3 true x3 (.sc (.int .i64 1)) fun t1=>
N [x0,t1] h
def n3:N3:=fun _ _ N _ _ x0 x3 x4 h=>
ai Pg .add 3 true x4 (.sc (.int .i64 1)) fun t2=>
N [x0,x3,t2] h
def n4:N0:=fun _ R _ _ _ h=>
R [(.sc (.bool true))] h
def n5:N4:=fun W R N E P x0 x3 x4 kl h=>
aF kl (
n4 W R N E P h) (
n3 W R N E P x0 x3 x4 h)
def n6:N3:=fun W R N E P x0 x3 x4 h=>
bB (some (1,none)) x0 x3 fun t3=>
ao (some false) (some 1) t3 h fun t4 _=>
bB (some (1,none)) x0 x4 fun t6=>
ao (some false) (some 1) t6 h fun t7 _=>
ai Pg .eql 9 false t4 t7 fun t9=>
n5 W R N E P x0 x3 x4 t9 h
def n7:N4:=fun W R N E P x0 x3 x4 bg h=>
aF bg (
n6 W R N E P x0 x3 x4 h) (
E 2 [x0,x3] h)
def n8:N3:=fun W R N E P x0 x3 x4 h=>
ai Pg .lss 3 false x4 x3 fun t10=>
n7 W R N E P x0 x3 x4 t10 h
def iX:GK:=fun W R N E P N' vs h=>n8 W R N' (fun(i:Nat) (vs:List AV) (h:AH)=>if i=2 then n2 W R N E P (vs.getD 0 ab) (vs.getD 1 ab) h else if i=1 then n2 W R N E P (vs.getD 0 ab) (vs.getD 1 ab) h else E i vs h) P (vs.getD 0 ab) (vs.getD 1 ab) (vs.getD 2 ab) h
def n9:N3:=fun W R N E P x0 x3 x4 h=>
dK (iX W R N E P) [x0,x3,x4] h
def aS:N2:=fun W R N E P x0 x3 h=>
n9 W R N E P x0 x3 (.sc (.int .i64 0)) h
def bj:N3:=fun W R N E P x0 x3 x8 h=>
aF x8 (
aS W R N E P x0 x3 h) (
E 0 [] h)
def a_:N2:=fun W R N E P x0 x3 h=>
(aY x0=false)/\bL x0 fun t11=>
ai Pg .lss 3 false x3 t11 fun t12=>
bj W R N E P x0 x3 t12 h
def cG:GK:=fun W R N E P N' vs h=>a_ W R N' (fun(i:Nat) (vs:List AV) (h:AH)=>if i=0 then n1 W R N E P h else E i vs h) P (vs.getD 0 ab) (vs.getD 1 ab) h
def bH:N2:=fun W R N E P x0 x3 h=>
dK (cG W R N E P) [x0,x3] h
def bP:N1:=fun W R N E P x0 h=>
bH W R N E P x0 (.sc (.int .i64 0)) h
def bV:N1:=fun W R N E P x0 h=>
bP W R N E P x0 h
theorem aM{x0:AV}{h:AH}{M:WK}{R:RK}(hp:bV (fun id=>M id\/h.next<=id) (aJ Pg [.tmp 2] R) (aJ Pg [.tmp 2] R) (fun _ _ _=>False) (fun v h=>R (.bW v) h) x0 h):aA Pg 94 [x0] h M R:=
 fin (n:=25) (pl:=[(7,⟨[(none,(fr 0 9))],false,[],[]⟩)]) (rs:=[.tmp 2]) (L:=rs) (fun c=>(a1 bV 0 c)) Tryz.mixed Tryz.func94 (fun c=>
(sq (a1 bV 0 c)
(sn
(sl (a0 n1 c))
(sq (a1 bP 0 c)
(bk 0 (lp [0,3] rs [(0,[])] (a2 bH 0 3 c) cG (fun i vs h=>if i=0 then n1 c.W c.R c.N c.E c.P h else c.E i vs h) (.b (.t .o)) fun c=>
(sn
(sn
(sm (a2 n2 0 3 c))
(bk 1 (sq (a2 aS 0 3 c)
(bk 2 (lp [0,3,4] rs [(2,[0,3]),(1,[0,3]),(0,[])] (a3 n9 0 3 4 c) iX (fun i vs h=>if i=2 then n2 c.W c.R c.N c.E c.P (vs.getD 0 ab) (vs.getD 1 ab) h else if i=1 then n2 c.W c.R c.N c.E c.P (vs.getD 0 ab) (vs.getD 1 ab) h else c.E i vs h) (.b (.b (.t .o))) fun c=>
(sn
(sn
(sm (a3 n3 0 3 4 c))
(bk 3 (sq (a3 n6 0 3 4 c)
(cd (a4 n5 0 3 4 24 c) (sl (a0 n4 c)) tr))))
(sq (a3 n8 0 3 4 c)
(cd (a4 n7 0 3 4 13 c) tr tr))))))))
(sq (a2 a_ 0 3 c)
(cd (a3 bj 0 3 8 c) tr tr))))))))) hp
attribute [simp] n1 n2 n3 n4 n5 n6 n7 n8 aS bj a_ bP bV
end nT
namespace tj
abbrev rs:List Nat:=[4]
def n1:N0:=fun _ R _ _ _ h=>
R [(.sc (.int .i64 (-1)))] h
def n2:N3:=fun _ _ N _ _ x0 x1 x5 h=>
ai Pg .add 3 true x5 (.sc (.int .i64 1)) fun t1=>
N [x0,x1,t1] h
def n3:N1:=fun _ R _ _ _ x5 h=>
R [x5] h
def n4:N4:=fun W R N E P x0 x1 x5 dm h=>
aF dm (
n3 W R N E P x5 h) (
n2 W R N E P x0 x1 x5 h)
def n5:N3:=fun W R N E P x0 x1 x5 h=>
bB (some (1,none)) x0 x5 fun t2=>
ao (some false) (some 1) t2 h fun t3 _=>
ai Pg .eql 9 false t3 x1 fun t5=>
n4 W R N E P x0 x1 x5 t5 h
def n6:N4:=fun W R N E P x0 x1 x5 x9 h=>
aF x9 (
n5 W R N E P x0 x1 x5 h) (
E 0 [] h)
def n7:N3:=fun W R N E P x0 x1 x5 h=>
(aY x0=false)/\bL x0 fun t6=>
ai Pg .lss 3 false x5 t6 fun t7=>
n6 W R N E P x0 x1 x5 t7 h
def cG:GK:=fun W R N E P N' vs h=>n7 W R N' (fun(i:Nat) (vs:List AV) (h:AH)=>if i=0 then n1 W R N E P h else E i vs h) P (vs.getD 0 ab) (vs.getD 1 ab) (vs.getD 2 ab) h
def n8:N3:=fun W R N E P x0 x1 x5 h=>
dK (cG W R N E P) [x0,x1,x5] h
def n9:N2:=fun W R N E P x0 x1 h=>
n8 W R N E P x0 x1 (.sc (.int .i64 0)) h
def aS:N2:=fun W R N E P x0 x1 h=>
n9 W R N E P x0 x1 h
theorem aM{x0 x1:AV}{h:AH}{M:WK}{R:RK}(hp:aS (fun id=>M id\/h.next<=id) (aJ Pg [.tmp 4] R) (aJ Pg [.tmp 4] R) (fun _ _ _=>False) (fun v h=>R (.bW v) h) x0 x1 h):aA Pg 95 [x0,x1] h M R:=
 fin (n:=19) (pl:=[]) (rs:=[.tmp 4]) (L:=rs) (fun c=>(a2 aS 0 1 c)) Tryz.mixed Tryz.func95 (fun c=>
(sq (a2 aS 0 1 c)
(sn
(sl (a0 n1 c))
(sq (a2 n9 0 1 c)
(bk 0 (lp [0,1,5] rs [(0,[])] (a3 n8 0 1 5 c) cG (fun i vs h=>if i=0 then n1 c.W c.R c.N c.E c.P h else c.E i vs h) (.b (.t .o)) fun c=>
(sn
(sn
(sm (a3 n2 0 1 5 c))
(bk 1 (sq (a3 n5 0 1 5 c)
(cd (a4 n4 0 1 5 17 c) (sl (a1 n3 5 c)) tr))))
(sq (a3 n7 0 1 5 c)
(cd (a4 n6 0 1 5 9 c) tr tr))))))))) hp
attribute [simp] n1 n2 n3 n4 n5 n6 n7 n9 aS
end tj
namespace tu
abbrev rs:List Nat:=[4]
def n1:N0:=fun _ R _ _ _ h=>
R [(.sc (.int .i64 (-1)))] h
def n2:N3:=fun _ _ N _ _ x0 x1 x5 h=>
ai Pg .add 3 true x5 (.sc (.int .i64 1)) fun t1=>
N [x0,x1,t1] h
def n3:N1:=fun _ R _ _ _ x5 h=>
R [x5] h
def n4:N4:=fun W R N E P x0 x1 x5 fj h=>
aF fj (
n3 W R N E P x5 h) (
n2 W R N E P x0 x1 x5 h)
def n5:N3:=fun W R N E P x0 x1 x5 h=>
bB (some (3,none)) x0 x5 fun t2=>
ah (some 0) t2 fun t3=>
ao (some false) (some 1) t3 h fun t4 _=>
ai Pg .eql 9 false t4 x1 fun t6=>
n4 W R N E P x0 x1 x5 t6 h
def n6:N4:=fun W R N E P x0 x1 x5 x9 h=>
aF x9 (
n5 W R N E P x0 x1 x5 h) (
E 0 [] h)
def n7:N3:=fun W R N E P x0 x1 x5 h=>
(aY x0=false)/\bL x0 fun t7=>
ai Pg .lss 3 false x5 t7 fun t8=>
n6 W R N E P x0 x1 x5 t8 h
def cG:GK:=fun W R N E P N' vs h=>n7 W R N' (fun(i:Nat) (vs:List AV) (h:AH)=>if i=0 then n1 W R N E P h else E i vs h) P (vs.getD 0 ab) (vs.getD 1 ab) (vs.getD 2 ab) h
def n8:N3:=fun W R N E P x0 x1 x5 h=>
dK (cG W R N E P) [x0,x1,x5] h
def n9:N2:=fun W R N E P x0 x1 h=>
n8 W R N E P x0 x1 (.sc (.int .i64 0)) h
def aS:N2:=fun W R N E P x0 x1 h=>
n9 W R N E P x0 x1 h
theorem aM{x0 x1:AV}{h:AH}{M:WK}{R:RK}(hp:aS (fun id=>M id\/h.next<=id) (aJ Pg [.tmp 4] R) (aJ Pg [.tmp 4] R) (fun _ _ _=>False) (fun v h=>R (.bW v) h) x0 x1 h):aA Pg 46 [x0,x1] h M R:=
 fin (n:=20) (pl:=[]) (rs:=[.tmp 4]) (L:=rs) (fun c=>(a2 aS 0 1 c)) Tryz.mixed Tryz.func46 (fun c=>
(sq (a2 aS 0 1 c)
(sn
(sl (a0 n1 c))
(sq (a2 n9 0 1 c)
(bk 0 (lp [0,1,5] rs [(0,[])] (a3 n8 0 1 5 c) cG (fun i vs h=>if i=0 then n1 c.W c.R c.N c.E c.P h else c.E i vs h) (.b (.t .o)) fun c=>
(sn
(sn
(sm (a3 n2 0 1 5 c))
(bk 1 (sq (a3 n5 0 1 5 c)
(cd (a4 n4 0 1 5 18 c) (sl (a1 n3 5 c)) tr))))
(sq (a3 n7 0 1 5 c)
(cd (a4 n6 0 1 5 9 c) tr tr))))))))) hp
attribute [simp] n1 n2 n3 n4 n5 n6 n7 n9 aS
end tu
end
section
open Go.Ab
namespace di
abbrev rs:List Nat:=[]
def n1:N5:=fun _ _ N _ _ x0 x2 x3 x4 ax h=>
aH x0 fun t1=>
ah (some 0) t1 fun t2=>
ao (some false) (some 1) t2 h fun t3 _=>
bB (some (6,none)) t3 ax fun t5=>
ah (some 4) t5 fun t6=>
ao (some false) (some 1) t6 h fun t7 _=>
ai Pg .add 3 true (.sc (.int .i64 1)) t7 fun t9=>
ai Pg .add 3 false ax t9 fun t10=>
N [x0,x2,x3,x4,t10] h
def n2:N8:=fun W R N E P x0 x2 x3 x4 ax ay aG bg h=>
ah (some 1) ay fun t11=>
ao (some false) (some 1) t11 h fun t12 _=>
ao (some true) (some 7) aG h fun t14 _=>
ah (some 5) ay fun t16=>
ao (some false) (some 1) t16 h fun t17 _=>
aq Pg W 44 [x0,t12,bg,t14,t17] h (fun t19 rU=>
n1 W R N E P x0 x2 x3 x4 ax rU) P
def n3:N9:=fun _ _ N _ _ x0 x2 x3 x4 ax ay aG bg aX h=>
ai Pg .add 3 true aX (.sc (.int .i64 1)) fun t21=>
N [x0,x2,x3,x4,ax,ay,aG,bg,t21] h
def n4:N9:=fun W R N E P x0 x2 x3 x4 ax ay aG bg aX h=>
ah (some 2) ay fun t22=>
ao (some false) (some 1) t22 h fun t23 _=>
bB (some (2,none)) t23 aX fun t25=>
ao (some true) (some 2) t25 h fun t26 _=>
aH x0 fun t28=>
ah (some 1) t28 fun t29=>
ao (some false) (some 1) t29 h fun t30 _=>
aq Pg pT 43 [x0,t26,t30] h (fun t32 uZ=>
dG (some (1,3,[.int .i64 0])) 1 [(0,t32)] uZ fun t34 kK=>
fE (some (1,8,3)) bg t34 kK W fun t36 tX=>
n3 W R N E P x0 x2 x3 x4 ax ay aG t36 aX tX) P
def n5:ru:=fun W R N E P x0 x2 x3 x4 ax ay aG bg aX A4 h=>
aF A4 (
n4 W R N E P x0 x2 x3 x4 ax ay aG bg aX h) (
E 3 [x0,x2,x3,x4,ax,ay,aG,bg] h)
def n6:N9:=fun W R N E P x0 x2 x3 x4 ax ay aG bg aX h=>
ah (some 2) ay fun t38=>
ao (some false) (some 1) t38 h fun t39 _=>
(aY t39=false)/\bL t39 fun t41=>
ai Pg .lss 3 false aX t41 fun t42=>
n5 W R N E P x0 x2 x3 x4 ax ay aG bg aX t42 h
def iX:GK:=fun W R N E P N' vs h=>n6 W R N' (fun(i:Nat) (vs:List AV) (h:AH)=>if i=3 then n2 W R N E P (vs.getD 0 ab) (vs.getD 1 ab) (vs.getD 2 ab) (vs.getD 3 ab) (vs.getD 4 ab) (vs.getD 5 ab) (vs.getD 6 ab) (vs.getD 7 ab) h else if i=2 then n1 W R N E P (vs.getD 0 ab) (vs.getD 1 ab) (vs.getD 2 ab) (vs.getD 3 ab) (vs.getD 4 ab) h else if i=1 then n1 W R N E P (vs.getD 0 ab) (vs.getD 1 ab) (vs.getD 2 ab) (vs.getD 3 ab) (vs.getD 4 ab) h else E i vs h) P (vs.getD 0 ab) (vs.getD 1 ab) (vs.getD 2 ab) (vs.getD 3 ab) (vs.getD 4 ab) (vs.getD 5 ab) (vs.getD 6 ab) (vs.getD 7 ab) (vs.getD 8 ab) h
def n7:N9:=fun W R N E P x0 x2 x3 x4 ax ay aG bg aX h=>
dK (iX W R N E P) [x0,x2,x3,x4,ax,ay,aG,bg,aX] h
def n8:N8:=fun W R N E P x0 x2 x3 x4 ax ay aG bg h=>
n7 W R N E P x0 x2 x3 x4 ax ay aG bg (.sc (.int .i64 0)) h
def n9:N7:=fun W R N E P x0 x2 x3 x4 ax ay aG h=>
ah (some 2) ay fun t43=>
ao (some false) (some 1) t43 h fun t44 _=>
(aY t44=false)/\bL t44 fun t46=>
Cq (some (1,8,3,[.int .i64 0])) (.sc (.int .i64 0)) t46 h fun t47 qa=>
n8 W R N E P x0 x2 x3 x4 ax ay aG t47 qa
def aS:N7:=fun W R N E P x0 x2 x3 x4 ax ay aG h=>
ao (some true) (some 7) aG h fun t49 _=>
ah (some 5) ay fun t51=>
ao (some false) (some 1) t51 h fun t52 _=>
aq Pg W 45 [x0,t49,t52] h (fun t54 sR=>
n1 W R N E P x0 x2 x3 x4 ax sR) P
def bj:N7:=fun W R N E P x0 x2 x3 x4 ax ay aG h=>
ah (some 2) ay fun t56=>
ao (some false) (some 1) t56 h fun t57 _=>
bB (some (2,none)) t57 (.sc (.int .i64 1)) fun t59=>
ao (some true) (some 2) t59 h fun t60 _=>
aH x0 fun t62=>
ah (some 2) t62 fun t63=>
ao (some false) (some 1) t63 h fun t64 _=>
aq Pg pT 43 [x0,t60,t64] h (fun t66 D4=>
ah (some 3) aG fun t68=>
aD (some 1) t68 t66 D4 W fun Gg=>
aS W R N E P x0 x2 x3 x4 ax ay aG Gg) P
def a_:N7:=fun W R N E P x0 x2 x3 x4 ax ay aG h=>
ah (some 2) ay fun t70=>
ao (some false) (some 1) t70 h fun t71 _=>
bB (some (2,none)) t71 (.sc (.int .i64 0)) fun t73=>
ao (some true) (some 2) t73 h fun t74 _=>
aH x0 fun t76=>
ah (some 1) t76 fun t77=>
ao (some false) (some 1) t77 h fun t78 _=>
aq Pg pT 43 [x0,t74,t78] h (fun t80 Gd=>
dG (some (1,3,[.int .i64 0])) 1 [(0,t80)] Gd fun t82 LF=>
ah (some 2) aG fun t84=>
aD (some 1) t84 t82 LF W fun ri=>
bj W R N E P x0 x2 x3 x4 ax ay aG ri) P
def bH:N7:=fun W R N E P x0 x2 x3 x4 ax ay aG h=>
ah (some 0) aG fun t86=>
aD (some 1) t86 (.sc (.int .i64 2)) h W fun Ca=>
a_ W R N E P x0 x2 x3 x4 ax ay aG Ca
def bP:N7:=fun W R N E P x0 x2 x3 x4 ax ay aG h=>
ao (some true) (some 7) aG h fun t88 _=>
ah (some 5) ay fun t90=>
ao (some false) (some 1) t90 h fun t91 _=>
aq Pg W 45 [x0,t88,t91] h (fun t93 B_=>
n1 W R N E P x0 x2 x3 x4 ax B_) P
def bV:N7:=fun W R N E P x0 x2 x3 x4 ax ay aG h=>
ah (some 2) ay fun t95=>
ao (some false) (some 1) t95 h fun t96 _=>
bB (some (2,none)) t96 (.sc (.int .i64 0)) fun t98=>
ao (some true) (some 2) t98 h fun t99 _=>
aH x0 fun t101=>
ah (some 1) t101 fun t102=>
ao (some false) (some 1) t102 h fun t103 _=>
aq Pg pT 43 [x0,t99,t103] h (fun t105 Gu=>
dG (some (1,3,[.int .i64 0])) 1 [(0,t105)] Gu fun t107 vQ=>
ah (some 2) aG fun t109=>
aD (some 1) t109 t107 vQ W fun Gs=>
bP W R N E P x0 x2 x3 x4 ax ay aG Gs) P
def bR:N7:=fun W R N E P x0 x2 x3 x4 ax ay aG h=>
ah (some 0) aG fun t111=>
aD (some 1) t111 (.sc (.int .i64 3)) h W fun Gr=>
bV W R N E P x0 x2 x3 x4 ax ay aG Gr
def b5:N7:=fun _ _ N _ _ x0 x2 x3 x4 ax ay bC h=>
ai Pg .add 3 true bC (.sc (.int .i64 1)) fun t113=>
N [x0,x2,x3,x4,ax,ay,t113] h
def ck:N8:=fun W R N E P x0 x2 x3 x4 ax ay bC Y2 h=>
aF Y2 (
E 5 [x0,x2,x3,x4,ax] h) (
b5 W R N E P x0 x2 x3 x4 ax ay bC h)
def cp:N8:=fun W R N E P x0 x2 x3 x4 ax ay bC du h=>
aH x0 fun t114=>
ah (some 7) t114 fun t115=>
ao (some false) (some 1) t115 h fun t116 _=>
(aY t116=false)/\bL t116 fun t118=>
ai Pg .eql 3 false t118 du fun t119=>
ck W R N E P x0 x2 x3 x4 ax ay bC t119 h
def cP:N8:=fun W R N E P x0 x2 x3 x4 ax ay bC du h=>
ai Pg .add 3 true ax (.sc (.int .i64 1)) fun t120=>
ai Pg .add 3 true ax (.sc (.int .i64 1)) fun t121=>
ah (some 4) ay fun t122=>
ao (some false) (some 1) t122 h fun t123 _=>
ai Pg .add 3 false t121 t123 fun t125=>
aq Pg W 16 [x0,t120,t125,x3,x4] h (fun t126 N_=>
cp W R N E P x0 x2 x3 x4 ax ay bC du N_) P
def cT:N7:=fun W R N E P x0 x2 x3 x4 ax ay bC h=>
aH x0 fun t128=>
ah (some 7) t128 fun t129=>
ao (some false) (some 1) t129 h fun t130 _=>
(aY t130=false)/\bL t130 fun t132=>
cP W R N E P x0 x2 x3 x4 ax ay bC t132 h
def cw:N8:=fun W R N E P x0 x2 x3 x4 ax ay bC Y6 h=>
aF Y6 (
cT W R N E P x0 x2 x3 x4 ax ay bC h) (
E 5 [x0,x2,x3,x4,ax] h)
def cL:N9:=fun W R N E P x0 x2 x3 x4 ax ay bC ET Y7 h=>
aO ET Y7 (.sc (.bool false)) fun t133=>
cw W R N E P x0 x2 x3 x4 ax ay bC t133 h
def cS:N8:=fun W R N E P x0 x2 x3 x4 ax ay bC ET h=>
bw true ET (
aH x0 fun t134=>
ah (some 6) t134 fun t135=>
ao (some false) (some 1) t135 h fun t136 _=>
iH .not t136 fun t138=>
cL W R N E P x0 x2 x3 x4 ax ay bC ET t138 h) (
cL W R N E P x0 x2 x3 x4 ax ay bC ET ab h)
def cF:N7:=fun W R N E P x0 x2 x3 x4 ax ay bC h=>
ah (some 3) ay fun t139=>
ao (some false) (some 1) t139 h fun t140 _=>
ai Pg .lss 3 false bC t140 fun t142=>
cS W R N E P x0 x2 x3 x4 ax ay bC t142 h
def pL:GK:=fun W R N E P N' vs h=>cF W R N' (fun(i:Nat) (vs:List AV) (h:AH)=>if i=5 then n1 W R N E P (vs.getD 0 ab) (vs.getD 1 ab) (vs.getD 2 ab) (vs.getD 3 ab) (vs.getD 4 ab) h else if i=2 then n1 W R N E P (vs.getD 0 ab) (vs.getD 1 ab) (vs.getD 2 ab) (vs.getD 3 ab) (vs.getD 4 ab) h else if i=1 then n1 W R N E P (vs.getD 0 ab) (vs.getD 1 ab) (vs.getD 2 ab) (vs.getD 3 ab) (vs.getD 4 ab) h else E i vs h) P (vs.getD 0 ab) (vs.getD 1 ab) (vs.getD 2 ab) (vs.getD 3 ab) (vs.getD 4 ab) (vs.getD 5 ab) (vs.getD 6 ab) h
def cC:N7:=fun W R N E P x0 x2 x3 x4 ax ay bC h=>
dK (pL W R N E P) [x0,x2,x3,x4,ax,ay,bC] h
def cB:N6:=fun W R N E P x0 x2 x3 x4 ax ay h=>
cC W R N E P x0 x2 x3 x4 ax ay (.sc (.int .i64 0)) h
def c9:N9:=fun W R N E P x0 x2 x3 x4 ax ay fj n_ YX h=>
aF YX (
ai Pg .add 3 true ax (.sc (.int .i64 1)) fun t143=>
ai Pg .add 3 true ax (.sc (.int .i64 1)) fun t144=>
ah (some 4) ay fun t145=>
ao (some false) (some 1) t145 h fun t146 _=>
ai Pg .add 3 false t144 t146 fun t148=>
ai Pg .or 34 false x3 fj fun t149=>
ai Pg .or 34 false x4 n_ fun t150=>
aq Pg W 16 [x0,t143,t148,t149,t150] h (fun t151 abd=>
n1 W R N E P x0 x2 x3 x4 ax abd) P) (
n1 W R N E P x0 x2 x3 x4 ax h)
def cU:ru:=fun W R N E P x0 x2 x3 x4 ax ay fj n_ EO YY h=>
aO EO (.sc (.bool true)) YY fun t153=>
c9 W R N E P x0 x2 x3 x4 ax ay fj n_ t153 h
def dn:N9:=fun W R N E P x0 x2 x3 x4 ax ay fj n_ EO h=>
bw false EO (
ai Pg .and 34 false x4 fj fun t154=>
ai Pg .eql 34 false t154 n_ fun t155=>
cU W R N E P x0 x2 x3 x4 ax ay fj n_ EO t155 h) (
cU W R N E P x0 x2 x3 x4 ax ay fj n_ EO ab h)
def dS:N8:=fun W R N E P x0 x2 x3 x4 ax ay fj n_ h=>
ai Pg .and 34 false x3 fj fun t156=>
ai Pg .eql 34 true t156 (.sc (.int .u64 0)) fun t157=>
dn W R N E P x0 x2 x3 x4 ax ay fj n_ t157 h
def dZ:N8:=fun W R N E P x0 x2 x3 x4 ax ay dm fj h=>
ah (some 3) ay fun t158=>
ao (some false) (some 1) t158 h fun t159 _=>
ql (some .u64) t159 fun t161=>
aH x0 fun t162=>
ah (some 2) t162 fun t163=>
ao (some false) (some 1) t163 h fun t164 _=>
bB (some (3,none)) t164 dm fun t166=>
ah (some 1) t166 fun t167=>
ao (some false) (some 1) t167 h fun t168 _=>
ai Pg .shl 34 false t161 t168 fun t170=>
dS W R N E P x0 x2 x3 x4 ax ay fj t170 h
def eC:N7:=fun W R N E P x0 x2 x3 x4 ax ay dm h=>
aH x0 fun t171=>
ah (some 2) t171 fun t172=>
ao (some false) (some 1) t172 h fun t173 _=>
bB (some (3,none)) t173 dm fun t175=>
ah (some 2) t175 fun t176=>
ao (some false) (some 1) t176 h fun t177 _=>
ai Pg .sub 3 true t177 (.sc (.int .i64 1)) fun t179=>
ai Pg .shl 34 true (.sc (.int .u64 1)) t179 fun t180=>
ai Pg .mul 34 true t180 (.sc (.int .u64 2)) fun t181=>
ai Pg .sub 34 true t181 (.sc (.int .u64 1)) fun t182=>
aH x0 fun t183=>
ah (some 2) t183 fun t184=>
ao (some false) (some 1) t184 h fun t185 _=>
bB (some (3,none)) t185 dm fun t187=>
ah (some 1) t187 fun t188=>
ao (some false) (some 1) t188 h fun t189 _=>
ai Pg .shl 34 false t182 t189 fun t191=>
dZ W R N E P x0 x2 x3 x4 ax ay dm t191 h
def fl:N6:=fun W R N E P x0 x2 x3 x4 ax ay h=>
aH x0 fun t192=>
ah (some 2) t192 fun t193=>
ao (some false) (some 1) t193 h fun t194 _=>
ah (some 1) ay fun t196=>
ao (some false) (some 1) t196 h fun t197 _=>
aq Pg pT 46 [t194,t197] h (fun t199 aaT=>
eC W R N E P x0 x2 x3 x4 ax ay t199 aaT) P
def fM:N7:=fun W R N E P x0 x2 x3 x4 ax ay Y1 h=>
aF Y1 (
fl W R N E P x0 x2 x3 x4 ax ay h) (
n1 W R N E P x0 x2 x3 x4 ax h)
def fu:N7:=fun W R N E P x0 x2 x3 x4 ax ay jN h=>
ai Pg .eql 9 true jN (.sc (.string ⟨#[105,102]⟩)) fun t201=>
fM W R N E P x0 x2 x3 x4 ax ay t201 h
def fD:N8:=fun W R N E P x0 x2 x3 x4 ax ay jN Y_ h=>
aF Y_ (
cB W R N E P x0 x2 x3 x4 ax ay h) (
fu W R N E P x0 x2 x3 x4 ax ay jN h)
def fL:N7:=fun W R N E P x0 x2 x3 x4 ax ay jN h=>
ai Pg .eql 9 true jN (.sc (.string ⟨#[114,101,112,101,97,116]⟩)) fun t202=>
fD W R N E P x0 x2 x3 x4 ax ay jN t202 h
def fk:N9:=fun W R N E P x0 x2 x3 x4 ax ay aG jN sC h=>
aF sC (
bR W R N E P x0 x2 x3 x4 ax ay aG h) (
fL W R N E P x0 x2 x3 x4 ax ay jN h)
def fQ:N8:=fun W R N E P x0 x2 x3 x4 ax ay aG jN h=>
ai Pg .eql 9 true jN (.sc (.string ⟨#[114,101,115,101,116]⟩)) fun t203=>
fk W R N E P x0 x2 x3 x4 ax ay aG jN t203 h
def e_:N9:=fun W R N E P x0 x2 x3 x4 ax ay aG jN JV h=>
aF JV (
bH W R N E P x0 x2 x3 x4 ax ay aG h) (
fQ W R N E P x0 x2 x3 x4 ax ay aG jN h)
def gf:N8:=fun W R N E P x0 x2 x3 x4 ax ay aG jN h=>
ai Pg .eql 9 true jN (.sc (.string ⟨#[109,101,97,115,117,114,101]⟩)) fun t204=>
e_ W R N E P x0 x2 x3 x4 ax ay aG jN t204 h
def fZ:N9:=fun W R N E P x0 x2 x3 x4 ax ay aG jN EL h=>
aF EL (
n9 W R N E P x0 x2 x3 x4 ax ay aG h) (
gf W R N E P x0 x2 x3 x4 ax ay aG jN h)
def fC:N8:=fun W R N E P x0 x2 x3 x4 ax ay aG jN h=>
ai Pg .eql 9 true jN (.sc (.string ⟨#[117,115,101]⟩)) fun t205=>
fZ W R N E P x0 x2 x3 x4 ax ay aG jN t205 h
def jd:N7:=fun W R N E P x0 x2 x3 x4 ax ay aG h=>
ah (some 0) ay fun t206=>
ao (some false) (some 1) t206 h fun t207 _=>
fC W R N E P x0 x2 x3 x4 ax ay aG t207 h
def gI:N6:=fun W R N E P x0 x2 x3 x4 ax ay h=>
ai Pg .neq 34 true x3 (.sc (.int .u64 0)) fun t209=>
cN (some ([.int .i64 0,.string ⟨#[]⟩,.slice none 0 0,.int .i64 0,.bool false,.int .u64 0,.int .u64 0],.inl [(0,1),(1,1),(2,1),(3,1),(4,1),(5,1),(6,1)])) [(4,t209),(5,x3),(6,x4)] fun t210=>
bx (some [.int .i64 0,.string ⟨#[]⟩,.slice none 0 0,.int .i64 0,.bool false,.int .u64 0,.int .u64 0]) 7 36 h fun t211 aaS=>
aD (some 7) t211 t210 aaS W fun aaR=>
jd W R N E P x0 x2 x3 x4 ax ay t211 aaR
def lc:N5:=fun W R N E P x0 x2 x3 x4 ax h=>
aH x0 fun t214=>
ah (some 0) t214 fun t215=>
ao (some false) (some 1) t215 h fun t216 _=>
bB (some (6,none)) t216 ax fun t218=>
ao (some true) (some 6) t218 h fun t219 _=>
bx (some [.string ⟨#[]⟩,.string ⟨#[]⟩,.slice none 0 0,.int .i64 0,.int .i64 0,.int .i64 0]) 6 87 h fun t221 aaQ=>
aD (some 6) t221 t219 aaQ W fun aaP=>
gI W R N E P x0 x2 x3 x4 ax t221 aaP
def jH:N6:=fun W R N E P x0 x2 x3 x4 ax w9 h=>
aF w9 (
lc W R N E P x0 x2 x3 x4 ax h) (
E 0 [] h)
def gQ:N7:=fun W R N E P x0 x2 x3 x4 ax kl pj h=>
aO kl pj (.sc (.bool false)) fun t224=>
jH W R N E P x0 x2 x3 x4 ax t224 h
def mh:N6:=fun W R N E P x0 x2 x3 x4 ax kl h=>
bw true kl (
aH x0 fun t225=>
ah (some 6) t225 fun t226=>
ao (some false) (some 1) t226 h fun t227 _=>
iH .not t227 fun t229=>
gQ W R N E P x0 x2 x3 x4 ax kl t229 h) (
gQ W R N E P x0 x2 x3 x4 ax kl ab h)
def pr:N5:=fun W R N E P x0 x2 x3 x4 ax h=>
ai Pg .lss 3 false ax x2 fun t230=>
mh W R N E P x0 x2 x3 x4 ax t230 h
def cG:GK:=fun W R N E P N' vs h=>pr W R N' (fun(i:Nat) (vs:List AV) (h:AH)=>if i=0 then N vs h else E i vs h) P (vs.getD 0 ab) (vs.getD 1 ab) (vs.getD 2 ab) (vs.getD 3 ab) (vs.getD 4 ab) h
def oV:N5:=fun W R N E P x0 x2 x3 x4 ax h=>
dK (cG W R N E P) [x0,x2,x3,x4,ax] h
def jW:N5:=fun W R N E P x0 x1 x2 x3 x4 h=>
oV W R N E P x0 x2 x3 x4 x1 h
theorem aM{x0 x1 x2 x3 x4:AV}{h:AH}{M:WK}{R:RK}(hp:jW (fun id=>M id\/h.next<=id) (aJ Pg [] R) (aJ Pg [] R) (fun _ _ _=>False) (fun v h=>R (.bW v) h) x0 x1 x2 x3 x4 h):aA Pg 16 [x0,x1,x2,x3,x4] h M R:=
 fin (n:=248) (pl:=[(1,⟨[(none,(fr 0 4)),(some (3,true),(fr 4 5)),(none,(fr 9 1))],false,[],[]⟩),(11,⟨[(none,(fr 0 15))],false,[],[11]⟩),(15,⟨[(none,(fr 0 13))],false,[],[9]⟩),(16,⟨[(none,(fr 0 12))],false,[],[9]⟩),(20,⟨[(none,(fr 0 13))],false,[],[9]⟩),(24,⟨[(none,(fr 0 5)),(some (4,true),(fr 5 5)),(none,(fr 10 1))],false,[],[]⟩),(30,⟨[(none,(fr 0 8))],false,[],[6]⟩),(31,⟨[(none,(fr 0 22))],false,[],[]⟩),(32,⟨[(none,(fr 0 13))],false,[],[]⟩),(33,⟨[(none,(fr 0 5)),(some (4,false),(fr 5 5)),(none,(fr 10 1))],false,[],[]⟩)]) (rs:=[]) (L:=rs) (fun c=>(a5 jW 0 1 2 3 4 c)) Tryz.mixed Tryz.func16 (fun c=>
(sq (a5 jW 0 1 2 3 4 c)
(bk 0 (lp [0,2,3,4,10] rs [(0,[])] (a5 oV 0 2 3 4 10 c) cG (fun i vs h=>if i=0 then c.N vs h else c.E i vs h) (.b .o) fun c=>
(sn
(sn
(sm (a5 n1 0 2 3 4 10 c))
(bk 1 (sq (a5 lc 0 2 3 4 10 c)
(sq (a6 gI 0 2 3 4 10 11 c)
(sq (a7 jd 0 2 3 4 10 11 12 c)
(bk 2 (sq (a8 fC 0 2 3 4 10 11 12 55 c)
(cd (a9 fZ 0 2 3 4 10 11 12 55 56 c) (sq (a7 n9 0 2 3 4 10 11 12 c)
(sn
(sm (a8 n2 0 2 3 4 10 11 12 13 c))
(sq (a8 n8 0 2 3 4 10 11 12 13 c)
(bk 3 (lp [0,2,3,4,10,11,12,13,14] rs [(3,[0,2,3,4,10,11,12,13]),(2,[0,2,3,4,10]),(1,[0,2,3,4,10]),(0,[])] (a9 n7 0 2 3 4 10 11 12 13 14 c) iX (fun i vs h=>if i=3 then n2 c.W c.R c.N c.E c.P (vs.getD 0 ab) (vs.getD 1 ab) (vs.getD 2 ab) (vs.getD 3 ab) (vs.getD 4 ab) (vs.getD 5 ab) (vs.getD 6 ab) (vs.getD 7 ab) h else if i=2 then n1 c.W c.R c.N c.E c.P (vs.getD 0 ab) (vs.getD 1 ab) (vs.getD 2 ab) (vs.getD 3 ab) (vs.getD 4 ab) h else if i=1 then n1 c.W c.R c.N c.E c.P (vs.getD 0 ab) (vs.getD 1 ab) (vs.getD 2 ab) (vs.getD 3 ab) (vs.getD 4 ab) h else c.E i vs h) (.b (.t (.b (.b (.t .o))))) fun c=>
(sn
(sn
(sm (a9 n3 0 2 3 4 10 11 12 13 14 c))
(bk 4 (gr (gl (a9 n4 0 2 3 4 10 11 12 13 14 c)))))
(sq (a9 n6 0 2 3 4 10 11 12 13 14 c)
(cd (rY n5 0 2 3 4 10 11 12 13 14 66 c) tr tr)))))))) (sq (a8 gf 0 2 3 4 10 11 12 55 c)
(cd (a9 e_ 0 2 3 4 10 11 12 55 91 c) (sq (a7 bH 0 2 3 4 10 11 12 c)
(sn
(sn
(sm (a7 aS 0 2 3 4 10 11 12 c))
(gr (gl (a7 bj 0 2 3 4 10 11 12 c))))
(gr (gl (a7 a_ 0 2 3 4 10 11 12 c))))) (sq (a8 fQ 0 2 3 4 10 11 12 55 c)
(cd (a9 fk 0 2 3 4 10 11 12 55 122 c) (sq (a7 bR 0 2 3 4 10 11 12 c)
(sn
(sm (a7 bP 0 2 3 4 10 11 12 c))
(gr (gl (a7 bV 0 2 3 4 10 11 12 c))))) (sq (a7 fL 0 2 3 4 10 11 55 c)
(cd (a8 fD 0 2 3 4 10 11 55 142 c) (sq (a6 cB 0 2 3 4 10 11 c)
(bk 5 (lp [0,2,3,4,10,11,15] rs [(5,[0,2,3,4,10]),(2,[0,2,3,4,10]),(1,[0,2,3,4,10]),(0,[])] (a7 cC 0 2 3 4 10 11 15 c) pL (fun i vs h=>if i=5 then n1 c.W c.R c.N c.E c.P (vs.getD 0 ab) (vs.getD 1 ab) (vs.getD 2 ab) (vs.getD 3 ab) (vs.getD 4 ab) h else if i=2 then n1 c.W c.R c.N c.E c.P (vs.getD 0 ab) (vs.getD 1 ab) (vs.getD 2 ab) (vs.getD 3 ab) (vs.getD 4 ab) h else if i=1 then n1 c.W c.R c.N c.E c.P (vs.getD 0 ab) (vs.getD 1 ab) (vs.getD 2 ab) (vs.getD 3 ab) (vs.getD 4 ab) h else c.E i vs h) (.b (.b (.b (.t .o)))) fun c=>
(sn
(sn
(sm (a7 b5 0 2 3 4 10 11 15 c))
(bk 6 (sq (a7 cT 0 2 3 4 10 11 15 c)
(sq (a8 cP 0 2 3 4 10 11 15 16 c)
(sq (a8 cp 0 2 3 4 10 11 15 16 c)
(cd (a8 ck 0 2 3 4 10 11 15 179 c) tr tr))))))
(sn
(cd (a8 cw 0 2 3 4 10 11 15 154 c) tr tr)
(gr (gn (a7 cF 0 2 3 4 10 11 15 c) (gx (a8 cS 0 2 3 4 10 11 15 148 c) (gl (a9 cL 0 2 3 4 10 11 15 148 153 c)))))))))) (sq (a7 fu 0 2 3 4 10 11 55 c)
(cd (a7 fM 0 2 3 4 10 11 180 c) (sn
(sq (a7 eC 0 2 3 4 10 11 17 c)
(sq (a8 dZ 0 2 3 4 10 11 17 18 c)
(sn
(cd (a9 c9 0 2 3 4 10 11 18 19 232 c) tr tr)
(gr (gn (a8 dS 0 2 3 4 10 11 18 19 c) (gx (a9 dn 0 2 3 4 10 11 18 19 226 c) (gl (rY cU 0 2 3 4 10 11 18 19 226 231 c))))))))
(gr (gl (a6 fl 0 2 3 4 10 11 c)))) tr))))))))))))))))
(sn
(cd (a6 jH 0 2 3 4 10 30 c) tr tr)
(gr (gn (a5 pr 0 2 3 4 10 c) (gx (a6 mh 0 2 3 4 10 24 c) (gl (a7 gQ 0 2 3 4 10 24 29 c))))))))))) hp
attribute [simp] n1 n2 n3 n4 n5 n6 n8 n9 aS bj a_ bH bP bV bR b5 ck cp cP cT cw cL cS cF cB c9 cU dn dS dZ eC fl fM fu fD fL fk fQ e_ gf fZ fC jd gI lc jH gQ mh pr jW
end di
namespace iQ
abbrev rs:List Nat:=[6]
def n1:N1:=fun _ R _ _ _ x7 h=>
R [x7] h
def n2:N4:=fun _ _ N _ _ x0 x2 x7 x8 h=>
aH x0 fun t1=>
ah (some 0) t1 fun t2=>
ao (some false) (some 1) t2 h fun t3 _=>
bB (some (6,none)) t3 x8 fun t5=>
ah (some 4) t5 fun t6=>
ao (some false) (some 1) t6 h fun t7 _=>
ai Pg .add 3 true (.sc (.int .i64 1)) t7 fun t9=>
ai Pg .add 3 false x8 t9 fun t10=>
N [x0,x2,x7,t10] h
def n3:N5:=fun W R N E P x0 x2 x7 x8 ax h=>
ai Pg .add 3 false x7 ax fun t11=>
rL true t11 (.sc (.int .i64 4097)) fun t12=>
n2 W R N E P x0 x2 t12 x8 h
def n4:N7:=fun W R N E P x0 x2 x7 x8 x9 ax w7 h=>
aF w7 (
n3 W R N E P x0 x2 x7 x8 (.sc (.int .i64 4097)) h) (
ah (some 3) x9 fun t13=>
ao (some false) (some 1) t13 h fun t14 _=>
rL true t14 (.sc (.int .i64 4097)) fun t16=>
ai Pg .mul 3 false ax t16 fun t17=>
n3 W R N E P x0 x2 x7 x8 t17 h)
def n5:N8:=fun W R N E P x0 x2 x7 x8 x9 ax fY pi h=>
aO fY pi (.sc (.bool false)) fun t18=>
n4 W R N E P x0 x2 x7 x8 x9 ax t18 h
def n6:N7:=fun W R N E P x0 x2 x7 x8 x9 ax fY h=>
bw true fY (
ah (some 3) x9 fun t19=>
ao (some false) (some 1) t19 h fun t20 _=>
ai Pg .gtr 3 true t20 (.sc (.int .i64 4096)) fun t22=>
n5 W R N E P x0 x2 x7 x8 x9 ax fY t22 h) (
n5 W R N E P x0 x2 x7 x8 x9 ax fY ab h)
def n7:N6:=fun W R N E P x0 x2 x7 x8 x9 ax h=>
ai Pg .gtr 3 true ax (.sc (.int .i64 0)) fun t23=>
n6 W R N E P x0 x2 x7 x8 x9 ax t23 h
def n8:N5:=fun W R N E P x0 x2 x7 x8 x9 h=>
ai Pg .add 3 true x8 (.sc (.int .i64 1)) fun t24=>
ai Pg .add 3 true x8 (.sc (.int .i64 1)) fun t25=>
ah (some 4) x9 fun t26=>
ao (some false) (some 1) t26 h fun t27 _=>
ai Pg .add 3 false t25 t27 fun t29=>
aq Pg W 42 [x0,t24,t29] h (fun t30 D7=>
n7 W R N E P x0 x2 x7 x8 x9 t30 D7) P
def n9:N7:=fun W R N E P x0 x2 x7 x8 ax ay jc h=>
aF jc (
aH x0 fun t32=>
ah (some 3) t32 fun t33=>
ao (some false) (some 1) t33 h fun t34 _=>
bB (some (7,none)) t34 ay fun t36=>
ah (some 5) t36 fun t37=>
ao (some false) (some 1) t37 h fun t38 _=>
n3 W R N E P x0 x2 x7 x8 t38 h) (
n3 W R N E P x0 x2 x7 x8 ax h)
def aS:N8:=fun W R N E P x0 x2 x7 x8 ax ay qT gM h=>
aO qT gM (.sc (.bool false)) fun t40=>
n9 W R N E P x0 x2 x7 x8 ax ay t40 h
def bj:N8:=fun W R N E P x0 x2 x7 x8 x9 ax ay qT h=>
bw true qT (
ah (some 1) x9 fun t41=>
ao (some false) (some 1) t41 h fun t42 _=>
aq Pg W 76 [t42] h (fun t44 rS=>
ai Pg .eql 3 true t44 (.sc (.int .i64 0)) fun t46=>
aS W R N E P x0 x2 x7 x8 ax ay qT t46 rS) P) (
aS W R N E P x0 x2 x7 x8 ax ay qT ab h)
def a_:N7:=fun W R N E P x0 x2 x7 x8 x9 ax ay h=>
ai Pg .geq 3 true ay (.sc (.int .i64 0)) fun t47=>
bj W R N E P x0 x2 x7 x8 x9 ax ay t47 h
def bH:N6:=fun W R N E P x0 x2 x7 x8 x9 ax h=>
ah (some 1) x9 fun t48=>
ao (some false) (some 1) t48 h fun t49 _=>
aq Pg W 75 [x0,t49] h (fun t51 pb=>
a_ W R N E P x0 x2 x7 x8 x9 ax t51 pb) P
def bP:N7:=fun W R N E P x0 x2 x7 x8 x9 ax lb h=>
aF lb (
n8 W R N E P x0 x2 x7 x8 x9 h) (
bH W R N E P x0 x2 x7 x8 x9 ax h)
def bV:N6:=fun W R N E P x0 x2 x7 x8 x9 ax h=>
ah (some 0) x9 fun t53=>
ao (some false) (some 1) t53 h fun t54 _=>
ai Pg .eql 9 true t54 (.sc (.string ⟨#[114,101,112,101,97,116]⟩)) fun t56=>
bP W R N E P x0 x2 x7 x8 x9 ax t56 h
def bR:N5:=fun W R N E P x0 x2 x7 x8 x9 h=>
bV W R N E P x0 x2 x7 x8 x9 (.sc (.int .i64 1)) h
def b5:N4:=fun W R N E P x0 x2 x7 x8 h=>
aH x0 fun t57=>
ah (some 0) t57 fun t58=>
ao (some false) (some 1) t58 h fun t59 _=>
bB (some (6,none)) t59 x8 fun t61=>
ao (some true) (some 6) t61 h fun t62 _=>
bx (some [.string ⟨#[]⟩,.string ⟨#[]⟩,.slice none 0 0,.int .i64 0,.int .i64 0,.int .i64 0]) 6 87 h fun t64 Gj=>
aD (some 6) t64 t62 Gj W fun Gi=>
bR W R N E P x0 x2 x7 x8 t64 Gi
def ck:N5:=fun W R N E P x0 x2 x7 x8 bC h=>
aF bC (
b5 W R N E P x0 x2 x7 x8 h) (
E 0 [x7] h)
def cp:N4:=fun W R N E P x0 x2 x7 x8 h=>
ai Pg .lss 3 false x8 x2 fun t67=>
ck W R N E P x0 x2 x7 x8 t67 h
def cG:GK:=fun W R N E P N' vs h=>cp W R N' (fun(i:Nat) (vs:List AV) (h:AH)=>if i=0 then n1 W R N E P (vs.getD 0 ab) h else E i vs h) P (vs.getD 0 ab) (vs.getD 1 ab) (vs.getD 2 ab) (vs.getD 3 ab) h
def cP:N4:=fun W R N E P x0 x2 x7 x8 h=>
dK (cG W R N E P) [x0,x2,x7,x8] h
def cT:N4:=fun W R N E P x0 x1 x2 x7 h=>
cP W R N E P x0 x2 x7 x1 h
def cw:N3:=fun W R N E P x0 x1 x2 h=>
cT W R N E P x0 x1 x2 (.sc (.int .i64 0)) h
def cL:N3:=fun W R N E P x0 x1 x2 h=>
cw W R N E P x0 x1 x2 h
theorem aM{x0 x1 x2:AV}{h:AH}{M:WK}{R:RK}(hp:cL (fun id=>M id\/h.next<=id) (aJ Pg [.tmp 6] R) (aJ Pg [.tmp 6] R) (fun _ _ _=>False) (fun v h=>R (.bW v) h) x0 x1 x2 h):aA Pg 42 [x0,x1,x2] h M R:=
 fin (n:=83) (pl:=[(9,⟨[(none,(fr 0 3)),(some (2,true),(fr 3 3)),(none,(fr 6 1))],false,[],[]⟩),(13,⟨[(none,(fr 0 3)),(some (2,true),(fr 3 4)),(none,(fr 7 1))],false,[],[]⟩)]) (rs:=[.tmp 6]) (L:=rs) (fun c=>(a3 cL 0 1 2 c)) Tryz.mixed Tryz.func42 (fun c=>
(sq (a3 cL 0 1 2 c)
(sq (a3 cw 0 1 2 c)
(sn
(sl (a1 n1 7 c))
(sq (a4 cT 0 1 2 7 c)
(bk 0 (lp [0,2,7,8] rs [(0,[7])] (a4 cP 0 2 7 8 c) cG (fun i vs h=>if i=0 then n1 c.W c.R c.N c.E c.P (vs.getD 0 ab) h else c.E i vs h) (.b (.t .o)) fun c=>
(sn
(sn
(sm (a4 n2 0 2 7 8 c))
(bk 1 (sq (a4 b5 0 2 7 8 c)
(sq (a5 bR 0 2 7 8 9 c)
(sn
(sm (a5 n3 0 2 7 8 10 c))
(sq (a6 bV 0 2 7 8 9 10 c)
(cd (a7 bP 0 2 7 8 9 10 36 c) (sq (a5 n8 0 2 7 8 9 c)
(sn
(cd (a7 n4 0 2 7 8 9 10 52 c) tr tr)
(gr (gn (a6 n7 0 2 7 8 9 10 c) (gx (a7 n6 0 2 7 8 9 10 48 c) (gl (a8 n5 0 2 7 8 9 10 48 51 c))))))) (sq (a6 bH 0 2 7 8 9 10 c)
(sn
(cd (a7 n9 0 2 7 8 10 11 69 c) tr tr)
(gr (gn (a7 a_ 0 2 7 8 9 10 11 c) (gx (a8 bj 0 2 7 8 9 10 11 64 c) (gl (a8 aS 0 2 7 8 10 11 64 68 c))))))))))))))
(sq (a4 cp 0 2 7 8 c)
(cd (a5 ck 0 2 7 8 15 c) tr tr)))))))))) hp
attribute [simp] n1 n2 n3 n4 n5 n6 n7 n8 n9 aS bj a_ bH bP bV bR b5 ck cp cT cw cL
end iQ
namespace wX
abbrev rs:List Nat:=[]
def n1:N2:=fun W _ N _ _ x0 x2 h=>
aH x0 fun t1=>
ah (some 8) t1 fun t2=>
ao (some false) (some 1) t2 h fun t3 _=>
dG (some (1,3,[.int .i64 0])) 1 [(0,x2)] h fun t5 h6=>
fE (some (1,8,3)) t3 t5 h6 W fun t7 h8=>
aH x0 fun t9=>
ah (some 8) t9 fun t10=>
aD (some 1) t10 t7 h8 W fun mO=>
N [] mO
def n2:N3:=fun W R N E P x0 x2 x4 h=>
aH x0 fun t12=>
ah (some 7) t12 fun t13=>
ao (some false) (some 1) t13 h fun t14 _=>
ao (some true) (some 7) x4 h fun t16 _=>
dG (some (7,36,[.int .i64 0,.string ⟨#[]⟩,.slice none 0 0,.int .i64 0,.bool false,.int .u64 0,.int .u64 0])) 1 [(0,t16)] h fun t18 mM=>
fE (some (7,80,36)) t14 t18 mM W fun t20 qe=>
aH x0 fun t22=>
ah (some 7) t22 fun t23=>
aD (some 1) t23 t20 qe W fun tY=>
n1 W R N E P x0 x2 tY
def n3:N2:=fun W R _ _ _ x0 x2 h=>
aH x0 fun t25=>
ah (some 4) t25 fun t26=>
aD (some 1) t26 x2 h W fun qd=>
aH x0 fun t28=>
ah (some 5) t28 fun t29=>
aD (some 1) t29 (.sc (.int .i64 115)) qd W fun wP=>
R [] wP
def n4:N2:=fun W R N E P x0 x2 h=>
aH x0 fun t31=>
ah (some 6) t31 fun t32=>
aD (some 1) t32 (.sc (.bool true)) h W fun uZ=>
n3 W R N E P x0 x2 uZ
def n5:N4:=fun W R N E P x0 x2 x4 bC h=>
aF bC (
n4 W R N E P x0 x2 h) (
n2 W R N E P x0 x2 x4 h)
def n6:N3:=fun W R N E P x0 x2 x4 h=>
aH x0 fun t34=>
ah (some 7) t34 fun t35=>
ao (some false) (some 1) t35 h fun t36 _=>
(aY t36=false)/\bL t36 fun t38=>
ai Pg .eql 3 true t38 (.sc (.int .i64 4096)) fun t39=>
n5 W R N E P x0 x2 x4 t39 h
def n7:N4:=fun W R N E P x0 x2 x4 x9 h=>
aF x9 (
R [] h) (
n6 W R N E P x0 x2 x4 h)
def n8:N3:=fun W R N E P x0 x2 x4 h=>
aH x0 fun t40=>
ah (some 6) t40 fun t41=>
ao (some false) (some 1) t41 h fun t42 _=>
n7 W R N E P x0 x2 x4 t42 h
def n9:N3:=fun W R N E P x0 x1 x2 h=>
eR 7 36 x1 h fun t44 rS=>
n8 W R N E P x0 x2 t44 rS
theorem aM{x0 x1 x2:AV}{h:AH}{M:WK}{R:RK}(hp:n9 (fun id=>M id\/h.next<=id) (aJ Pg [] R) (aJ Pg [] R) (fun _ _ _=>False) (fun v h=>R (.bW v) h) x0 x1 x2 h):aA Pg 45 [x0,x1,x2] h M R:=
 fin (n:=46) (pl:=[(5,⟨[(none,(fr 0 11))],false,[],[]⟩)]) (rs:=[]) (L:=rs) (fun c=>(a3 n9 0 1 2 c)) Tryz.mixed Tryz.func45 (fun c=>
(sq (a3 n9 0 1 2 c)
(sn
(sn
(sq (a3 n2 0 2 4 c)
(sm (a2 n1 0 2 c)))
(sq (a3 n6 0 2 4 c)
(cd (a4 n5 0 2 4 15 c) (sq (a2 n4 0 2 c)
(sl (a2 n3 0 2 c))) tr)))
(sq (a3 n8 0 2 4 c)
(cd (a4 n7 0 2 4 9 c) tr tr))))) hp
attribute [simp] n1 n2 n3 n4 n5 n6 n7 n8 n9
end wX
namespace fx
abbrev rs:List Nat:=[]
def n1:N7:=fun _ _ N _ _ x0 x3 x4 x6 x8 aG aX h=>
aH x0 fun t1=>
ah (some 0) t1 fun t2=>
ao (some false) (some 1) t2 h fun t3 _=>
bB (some (6,none)) t3 aX fun t5=>
ah (some 4) t5 fun t6=>
ao (some false) (some 1) t6 h fun t7 _=>
ai Pg .add 3 true (.sc (.int .i64 1)) t7 fun t9=>
ai Pg .add 3 false aX t9 fun t10=>
N [x0,x3,x4,x6,x8,aG,t10] h
def n2:N9:=fun _ _ N _ _ x0 x3 x4 x6 x8 aG aX bC fj h=>
ai Pg .add 3 true fj (.sc (.int .i64 1)) fun t11=>
N [x0,x3,x4,x6,x8,aG,aX,bC,t11] h
def n3:ru:=fun W R N E P x0 x3 x4 x6 x8 aG aX bC fj sC h=>
aF sC (
E 4 [x0,x3,x4,x6,x8,aG,aX] h) (
n2 W R N E P x0 x3 x4 x6 x8 aG aX bC fj h)
def n4:ru:=fun W R N E P x0 x3 x4 x6 x8 aG aX bC fj n_ h=>
aH x0 fun t12=>
ah (some 7) t12 fun t13=>
ao (some false) (some 1) t13 h fun t14 _=>
(aY t14=false)/\bL t14 fun t16=>
ai Pg .eql 3 false t16 n_ fun t17=>
n3 W R N E P x0 x3 x4 x6 x8 aG aX bC fj t17 h
def n5:ru:=fun W R N E P x0 x3 x4 x6 x8 aG aX bC fj n_ h=>
ao (some true) (some 7) x8 h fun t18 _=>
ai Pg .add 3 true aX (.sc (.int .i64 1)) fun t20=>
ai Pg .add 3 true aX (.sc (.int .i64 1)) fun t21=>
ah (some 4) bC fun t22=>
ao (some false) (some 1) t22 h fun t23 _=>
ai Pg .add 3 false t21 t23 fun t25=>
ao (some true) (some 7) aG h fun t26 _=>
aq Pg W 77 [x0,t18,t20,t25,x4,t26,x6] h (fun t28 Ib=>
n4 W R N E P x0 x3 x4 x6 x8 aG aX bC fj n_ Ib) P
def n6:N9:=fun W R N E P x0 x3 x4 x6 x8 aG aX bC fj h=>
aH x0 fun t30=>
ah (some 7) t30 fun t31=>
ao (some false) (some 1) t31 h fun t32 _=>
(aY t32=false)/\bL t32 fun t34=>
n5 W R N E P x0 x3 x4 x6 x8 aG aX bC fj t34 h
def n7:ru:=fun W R N E P x0 x3 x4 x6 x8 aG aX bC fj JS h=>
aF JS (
n6 W R N E P x0 x3 x4 x6 x8 aG aX bC fj h) (
E 4 [x0,x3,x4,x6,x8,aG,aX] h)
def n8:Ek:=fun W R N E P x0 x3 x4 x6 x8 aG aX bC fj EG JT h=>
aO EG JT (.sc (.bool false)) fun t35=>
n7 W R N E P x0 x3 x4 x6 x8 aG aX bC fj t35 h
def n9:ru:=fun W R N E P x0 x3 x4 x6 x8 aG aX bC fj EG h=>
bw true EG (
aH x0 fun t36=>
ah (some 6) t36 fun t37=>
ao (some false) (some 1) t37 h fun t38 _=>
iH .not t38 fun t40=>
n8 W R N E P x0 x3 x4 x6 x8 aG aX bC fj EG t40 h) (
n8 W R N E P x0 x3 x4 x6 x8 aG aX bC fj EG ab h)
def aS:N9:=fun W R N E P x0 x3 x4 x6 x8 aG aX bC fj h=>
ah (some 3) bC fun t41=>
ao (some false) (some 1) t41 h fun t42 _=>
ai Pg .lss 3 false fj t42 fun t44=>
n9 W R N E P x0 x3 x4 x6 x8 aG aX bC fj t44 h
def iX:GK:=fun W R N E P N' vs h=>aS W R N' (fun(i:Nat) (vs:List AV) (h:AH)=>if i=4 then n1 W R N E P (vs.getD 0 ab) (vs.getD 1 ab) (vs.getD 2 ab) (vs.getD 3 ab) (vs.getD 4 ab) (vs.getD 5 ab) (vs.getD 6 ab) h else if i=1 then n1 W R N E P (vs.getD 0 ab) (vs.getD 1 ab) (vs.getD 2 ab) (vs.getD 3 ab) (vs.getD 4 ab) (vs.getD 5 ab) (vs.getD 6 ab) h else E i vs h) P (vs.getD 0 ab) (vs.getD 1 ab) (vs.getD 2 ab) (vs.getD 3 ab) (vs.getD 4 ab) (vs.getD 5 ab) (vs.getD 6 ab) (vs.getD 7 ab) (vs.getD 8 ab) h
def bj:N9:=fun W R N E P x0 x3 x4 x6 x8 aG aX bC fj h=>
dK (iX W R N E P) [x0,x3,x4,x6,x8,aG,aX,bC,fj] h
def a_:N8:=fun W R N E P x0 x3 x4 x6 x8 aG aX bC h=>
bj W R N E P x0 x3 x4 x6 x8 aG aX bC (.sc (.int .i64 0)) h
def bH:N9:=fun W R N E P x0 x3 x4 x6 x8 aG aX bC du h=>
ah (some 1) bC fun t45=>
ao (some false) (some 1) t45 h fun t46 _=>
ao (some true) (some 7) aG h fun t48 _=>
aq Pg W 44 [x0,t46,du,t48,x6] h (fun t50 sS=>
n1 W R N E P x0 x3 x4 x6 x8 aG aX sS) P
def bP:ru:=fun _ _ N _ _ x0 x3 x4 x6 x8 aG aX bC du dm h=>
ai Pg .add 3 true dm (.sc (.int .i64 1)) fun t52=>
N [x0,x3,x4,x6,x8,aG,aX,bC,du,t52] h
def bV:ru:=fun W R N E P x0 x3 x4 x6 x8 aG aX bC du dm h=>
ah (some 1) x8 fun t53=>
ao (some false) (some 1) t53 h fun t54 _=>
ah (some 2) bC fun t56=>
ao (some false) (some 1) t56 h fun t57 _=>
bB (some (2,none)) t57 dm fun t59=>
ah (some 0) t59 fun t60=>
ao (some false) (some 1) t60 h fun t61 _=>
aq Pg pT 95 [t54,t61] h (fun t63 wI=>
bB (some (1,none)) x4 t63 fun t65=>
ao (some false) (some 1) t65 wI fun t66 _=>
dG (some (1,3,[.int .i64 0])) 1 [(0,t66)] wI fun t68 Gg=>
fE (some (1,8,3)) du t68 Gg W fun t70 h71=>
bP W R N E P x0 x3 x4 x6 x8 aG aX bC t70 dm h71) P
def bR:Ek:=fun W R N E P x0 x3 x4 x6 x8 aG aX bC du dm uF h=>
aF uF (
bV W R N E P x0 x3 x4 x6 x8 aG aX bC du dm h) (
E 2 [x0,x3,x4,x6,x8,aG,aX,bC,du] h)
def b5:ru:=fun W R N E P x0 x3 x4 x6 x8 aG aX bC du dm h=>
ah (some 2) bC fun t72=>
ao (some false) (some 1) t72 h fun t73 _=>
(aY t73=false)/\bL t73 fun t75=>
ai Pg .lss 3 false dm t75 fun t76=>
bR W R N E P x0 x3 x4 x6 x8 aG aX bC du dm t76 h
def pL:GK:=fun W R N E P N' vs h=>b5 W R N' (fun(i:Nat) (vs:List AV) (h:AH)=>if i=2 then bH W R N E P (vs.getD 0 ab) (vs.getD 1 ab) (vs.getD 2 ab) (vs.getD 3 ab) (vs.getD 4 ab) (vs.getD 5 ab) (vs.getD 6 ab) (vs.getD 7 ab) (vs.getD 8 ab) h else if i=1 then n1 W R N E P (vs.getD 0 ab) (vs.getD 1 ab) (vs.getD 2 ab) (vs.getD 3 ab) (vs.getD 4 ab) (vs.getD 5 ab) (vs.getD 6 ab) h else E i vs h) P (vs.getD 0 ab) (vs.getD 1 ab) (vs.getD 2 ab) (vs.getD 3 ab) (vs.getD 4 ab) (vs.getD 5 ab) (vs.getD 6 ab) (vs.getD 7 ab) (vs.getD 8 ab) (vs.getD 9 ab) h
def ck:ru:=fun W R N E P x0 x3 x4 x6 x8 aG aX bC du dm h=>
dK (pL W R N E P) [x0,x3,x4,x6,x8,aG,aX,bC,du,dm] h
def cp:N9:=fun W R N E P x0 x3 x4 x6 x8 aG aX bC du h=>
ck W R N E P x0 x3 x4 x6 x8 aG aX bC du (.sc (.int .i64 0)) h
def cP:N8:=fun W R N E P x0 x3 x4 x6 x8 aG aX bC h=>
ah (some 2) bC fun t77=>
ao (some false) (some 1) t77 h fun t78 _=>
(aY t78=false)/\bL t78 fun t80=>
Cq (some (1,8,3,[.int .i64 0])) (.sc (.int .i64 0)) t80 h fun t81 xV=>
cp W R N E P x0 x3 x4 x6 x8 aG aX bC t81 xV
def cT:N9:=fun W R N E P x0 x3 x4 x6 x8 aG aX bC pi h=>
aF pi (
cP W R N E P x0 x3 x4 x6 x8 aG aX bC h) (
a_ W R N E P x0 x3 x4 x6 x8 aG aX bC h)
def cw:N8:=fun W R N E P x0 x3 x4 x6 x8 aG aX bC h=>
ah (some 0) bC fun t83=>
ao (some false) (some 1) t83 h fun t84 _=>
ai Pg .eql 9 true t84 (.sc (.string ⟨#[117,115,101]⟩)) fun t86=>
cT W R N E P x0 x3 x4 x6 x8 aG aX bC t86 h
def cL:N7:=fun W R N E P x0 x3 x4 x6 x8 aG aX h=>
aH x0 fun t87=>
ah (some 0) t87 fun t88=>
ao (some false) (some 1) t88 h fun t89 _=>
bB (some (6,none)) t89 aX fun t91=>
ao (some true) (some 6) t91 h fun t92 _=>
bx (some [.string ⟨#[]⟩,.string ⟨#[]⟩,.slice none 0 0,.int .i64 0,.int .i64 0,.int .i64 0]) 6 87 h fun t94 Vg=>
aD (some 6) t94 t92 Vg W fun Gb=>
cw W R N E P x0 x3 x4 x6 x8 aG aX t94 Gb
def cS:N8:=fun W R N E P x0 x3 x4 x6 x8 aG aX w9 h=>
aF w9 (
cL W R N E P x0 x3 x4 x6 x8 aG aX h) (
E 0 [] h)
def cF:N9:=fun W R N E P x0 x3 x4 x6 x8 aG aX kl pj h=>
aO kl pj (.sc (.bool false)) fun t97=>
cS W R N E P x0 x3 x4 x6 x8 aG aX t97 h
def cC:N8:=fun W R N E P x0 x3 x4 x6 x8 aG aX kl h=>
bw true kl (
aH x0 fun t98=>
ah (some 6) t98 fun t99=>
ao (some false) (some 1) t99 h fun t100 _=>
iH .not t100 fun t102=>
cF W R N E P x0 x3 x4 x6 x8 aG aX kl t102 h) (
cF W R N E P x0 x3 x4 x6 x8 aG aX kl ab h)
def cB:N7:=fun W R N E P x0 x3 x4 x6 x8 aG aX h=>
ai Pg .lss 3 false aX x3 fun t103=>
cC W R N E P x0 x3 x4 x6 x8 aG aX t103 h
def cG:GK:=fun W R N E P N' vs h=>cB W R N' (fun(i:Nat) (vs:List AV) (h:AH)=>if i=0 then N vs h else E i vs h) P (vs.getD 0 ab) (vs.getD 1 ab) (vs.getD 2 ab) (vs.getD 3 ab) (vs.getD 4 ab) (vs.getD 5 ab) (vs.getD 6 ab) h
def c9:N7:=fun W R N E P x0 x3 x4 x6 x8 aG aX h=>
dK (cG W R N E P) [x0,x3,x4,x6,x8,aG,aX] h
def cU:N7:=fun W R N E P x0 x2 x3 x4 x6 x8 aG h=>
c9 W R N E P x0 x3 x4 x6 x8 aG x2 h
def dn:N7:=fun W R N E P x0 x1 x2 x3 x4 x5 x6 h=>
eR 7 97 x1 h fun t104 abp=>
eR 7 36 x5 abp fun t106 Gt=>
cU W R N E P x0 x2 x3 x4 x6 t104 t106 Gt
theorem aM{x0 x1 x2 x3 x4 x5 x6:AV}{h:AH}{M:WK}{R:RK}(hp:dn (fun id=>M id\/h.next<=id) (aJ Pg [] R) (aJ Pg [] R) (fun _ _ _=>False) (fun v h=>R (.bW v) h) x0 x1 x2 x3 x4 x5 x6 h):aA Pg 77 [x0,x1,x2,x3,x4,x5,x6] h M R:=
 fin (n:=123) (pl:=[(2,⟨[(none,(fr 0 4)),(some (3,true),(fr 4 5)),(none,(fr 9 1))],false,[],[]⟩),(10,⟨[(none,(fr 0 16))],false,[],[10]⟩),(13,⟨[(none,(fr 0 5)),(some (4,true),(fr 5 5)),(none,(fr 10 1))],false,[],[]⟩)]) (rs:=[]) (L:=rs) (fun c=>(a7 dn 0 1 2 3 4 5 6 c)) Tryz.mixed Tryz.func77 (fun c=>
(sq (a7 dn 0 1 2 3 4 5 6 c)
(sq (a7 cU 0 2 3 4 6 8 12 c)
(bk 0 (lp [0,3,4,6,8,12,14] rs [(0,[])] (a7 c9 0 3 4 6 8 12 14 c) cG (fun i vs h=>if i=0 then c.N vs h else c.E i vs h) (.b .o) fun c=>
(sn
(sn
(sm (a7 n1 0 3 4 6 8 12 14 c))
(bk 1 (sq (a7 cL 0 3 4 6 8 12 14 c)
(sn
(sq (a8 a_ 0 3 4 6 8 12 14 15 c)
(bk 4 (lp [0,3,4,6,8,12,14,15,18] rs [(4,[0,3,4,6,8,12,14]),(1,[0,3,4,6,8,12,14]),(0,[])] (a9 bj 0 3 4 6 8 12 14 15 18 c) iX (fun i vs h=>if i=4 then n1 c.W c.R c.N c.E c.P (vs.getD 0 ab) (vs.getD 1 ab) (vs.getD 2 ab) (vs.getD 3 ab) (vs.getD 4 ab) (vs.getD 5 ab) (vs.getD 6 ab) h else if i=1 then n1 c.W c.R c.N c.E c.P (vs.getD 0 ab) (vs.getD 1 ab) (vs.getD 2 ab) (vs.getD 3 ab) (vs.getD 4 ab) (vs.getD 5 ab) (vs.getD 6 ab) h else c.E i vs h) (.b (.b (.t .o))) fun c=>
(sn
(sn
(sm (a9 n2 0 3 4 6 8 12 14 15 18 c))
(bk 5 (sq (a9 n6 0 3 4 6 8 12 14 15 18 c)
(sq (rY n5 0 3 4 6 8 12 14 15 18 19 c)
(sq (rY n4 0 3 4 6 8 12 14 15 18 19 c)
(cd (rY n3 0 3 4 6 8 12 14 15 18 122 c) tr tr))))))
(sn
(cd (rY n7 0 3 4 6 8 12 14 15 18 95 c) tr tr)
(gr (gn (a9 aS 0 3 4 6 8 12 14 15 18 c) (gx (rY n9 0 3 4 6 8 12 14 15 18 89 c) (gl (G4 n8 0 3 4 6 8 12 14 15 18 89 94 c))))))))))
(sq (a8 cw 0 3 4 6 8 12 14 15 c)
(cd (a9 cT 0 3 4 6 8 12 14 15 51 c) (sq (a8 cP 0 3 4 6 8 12 14 15 c)
(sn
(sl (a9 bH 0 3 4 6 8 12 14 15 16 c))
(sq (a9 cp 0 3 4 6 8 12 14 15 16 c)
(bk 2 (lp [0,3,4,6,8,12,14,15,16,17] rs [(2,[0,3,4,6,8,12,14,15,16]),(1,[0,3,4,6,8,12,14]),(0,[])] (rY ck 0 3 4 6 8 12 14 15 16 17 c) pL (fun i vs h=>if i=2 then bH c.W c.R c.N c.E c.P (vs.getD 0 ab) (vs.getD 1 ab) (vs.getD 2 ab) (vs.getD 3 ab) (vs.getD 4 ab) (vs.getD 5 ab) (vs.getD 6 ab) (vs.getD 7 ab) (vs.getD 8 ab) h else if i=1 then n1 c.W c.R c.N c.E c.P (vs.getD 0 ab) (vs.getD 1 ab) (vs.getD 2 ab) (vs.getD 3 ab) (vs.getD 4 ab) (vs.getD 5 ab) (vs.getD 6 ab) h else c.E i vs h) (.b (.t (.t (.b (.t .o))))) fun c=>
(sn
(sn
(sm (rY bP 0 3 4 6 8 12 14 15 16 17 c))
(bk 3 (gr (gl (rY bV 0 3 4 6 8 12 14 15 16 17 c)))))
(sq (rY b5 0 3 4 6 8 12 14 15 16 17 c)
(cd (G4 bR 0 3 4 6 8 12 14 15 16 17 60 c) tr tr)))))))) tr))))))
(sn
(cd (a8 cS 0 3 4 6 8 12 14 30 c) tr tr)
(gr (gn (a7 cB 0 3 4 6 8 12 14 c) (gx (a8 cC 0 3 4 6 8 12 14 24 c) (gl (a9 cF 0 3 4 6 8 12 14 24 29 c)))))))))))) hp
attribute [simp] n1 n2 n3 n4 n5 n6 n7 n8 n9 aS a_ bH bP bV bR b5 cp cP cT cw cL cS cF cC cB cU dn
end fx
namespace Ml
abbrev rs:List Nat:=[6]
def n1:N1:=fun _ R _ _ _ x6 h=>
R [x6] h
def n2:N2:=fun W R N E P x2 x4 h=>
∃Hd:Nat->Nat,(∀i∈[9],h.obj (Hd i)≠none)/\(
ah (some 0) x4 fun t1=>
ao (some false) (some 1) t1 h fun t2 _=>
ah (some 1) x4 fun t4=>
ao (some false) (some 1) t4 h fun t5 i6=>
(i6=Hd 9)/\(
aq Pg (iZ W Hd [9]) 46 [x2,t2] h (fun t7 h8=>
bB (some (3,none)) x2 t7 fun t9=>
ah (some 1) t9 fun t10=>
ao (some false) (some 1) t10 h8 fun t11 _=>
ai Pg .add 3 false t11 t5 fun t13=>
n1 W R N E P t13 h8) P))
def n3:N2:=fun W R N E P x1 x2 h=>
eR 2 92 x1 h fun t14 qf=>
n2 W R N E P x2 t14 qf
theorem aM{x0 x1 x2:AV}{h:AH}{M:WK}{R:RK}(hp:n3 (fun id=>M id\/h.next<=id) (aJ Pg [.tmp 6] R) (aJ Pg [.tmp 6] R) (fun _ _ _=>False) (fun v h=>R (.bW v) h) x1 x2 h):aA Pg 43 [x0,x1,x2] h M R:=
 fin (n:=18) (pl:=[(1,⟨[(none,[(0,false),(1,false),(2,false),(3,false),(8,false),(9,true),(4,false),(5,false),(6,false),(7,false),(10,false),(11,false)])],true,[],[]⟩)]) (rs:=[.tmp 6]) (L:=rs) (fun c=>(a2 n3 1 2 c)) Tryz.mixed Tryz.func43 (fun c=>
(sq (a2 n3 1 2 c)
(sn
(sm (a1 n1 6 c))
(sm (a2 n2 2 4 c))))) hp
attribute [simp] n1 n2 n3
end Ml
namespace tv
abbrev rs:List Nat:=[]
def n1:N6:=fun W _ N _ P x0 x2 x4 x8 ax JY h=>
aF JY (
ao (some true) (some 7) ax h fun t1 _=>
ah (some 2) ax fun t3=>
ao (some false) (some 1) t3 h fun t4 _=>
ah (some 3) ax fun t6=>
ao (some false) (some 1) t6 h fun t7 _=>
ao (some true) (some 7) x8 h fun t9 _=>
aq Pg W 77 [x0,t1,t4,t7,x2,t9,x4] h (fun t11 rX=>
N [] rX) P) (
N [] h)
def n2:N5:=fun W R N E P x0 x2 x4 x8 ax h=>
ah (some 5) ax fun t13=>
ao (some false) (some 1) t13 h fun t14 _=>
ai Pg .gtr 3 true t14 (.sc (.int .i64 0)) fun t16=>
n1 W R N E P x0 x2 x4 x8 ax t16 h
def n3:N5:=fun W R N E P x0 x1 x2 x4 x8 h=>
∃Hd:Nat->Nat,(∀i∈[3],h.obj (Hd i)≠none)/\(
aH x0 fun t17=>
ah (some 3) t17 fun t18=>
ao (some false) (some 1) t18 h fun t19 i20=>
(i20=Hd 3)/\(
(
aq Pg (iZ W Hd [3]) 75 [x0,x1] h (fun t21 sT=>
bB (some (7,none)) t19 t21 fun t23=>
ao (some true) (some 7) t23 sT fun t24 _=>
bx (some [.string ⟨#[]⟩,.slice none 0 0,.int .i64 0,.int .i64 0,.int .i64 0,.int .i64 0,.bool false]) 7 97 sT fun t26 qd=>
aD (some 7) t26 t24 qd W fun qc=>
n2 W R N E P x0 x2 x4 x8 t26 qc) P)/\(
bx (some [.string ⟨#[]⟩,.slice none 0 0,.int .i64 0,.int .i64 0,.int .i64 0,.int .i64 0,.bool false]) 7 97 h fun t29 wP=>
aq Pg (iZ W Hd [3]) 75 [x0,x1] wP (fun t31 wO=>
bB (some (7,none)) t19 t31 fun t33=>
ao (some true) (some 7) t33 wO fun t34 _=>
aD (some 7) t29 t34 wO W fun wN=>
n2 W R N E P x0 x2 x4 x8 t29 wN) P)/\True))
def n4:N3:=fun W R _ _ P x0 x4 x8 h=>
ao (some true) (some 7) x8 h fun t37 _=>
aq Pg W 45 [x0,t37,x4] h (fun t39 zx=>
R [] zx) P
def n5:N4:=fun W R N E P x0 x2 x4 x8 h=>
ah (some 2) x8 fun t41=>
aD (some 1) t41 x2 h W fun zw=>
n4 W R N E P x0 x4 x8 zw
def n6:N5:=fun W R N E P x0 x1 x2 x4 x8 h=>
ah (some 1) x8 fun t43=>
aD (some 1) t43 x1 h W fun wL=>
n5 W R N E P x0 x2 x4 x8 wL
def n7:N5:=fun W R N E P x0 x1 x2 x4 x8 h=>
ah (some 0) x8 fun t45=>
aD (some 1) t45 (.sc (.int .i64 1)) h W fun zu=>
n6 W R N E P x0 x1 x2 x4 x8 zu
def n8:N6:=fun W R N E P x0 x1 x2 x4 x8 bg h=>
aF bg (
n7 W R N E P x0 x1 x2 x4 x8 h) (
n3 W R N E P x0 x1 x2 x4 x8 h)
def n9:N5:=fun W R N E P x0 x1 x2 x4 x8 h=>
aq Pg W 76 [x1] h (fun t47 qa=>
ai Pg .gtr 3 true t47 (.sc (.int .i64 0)) fun t49=>
n8 W R N E P x0 x1 x2 x4 x8 t49 qa) P
def aS:N5:=fun W R N E P x0 x1 x2 x3 x4 h=>
eR 7 36 x3 h fun t50 sS=>
n9 W R N E P x0 x1 x2 x4 t50 sS
theorem aM{x0 x1 x2 x3 x4:AV}{h:AH}{M:WK}{R:RK}(hp:aS (fun id=>M id\/h.next<=id) (aJ Pg [] R) (aJ Pg [] R) (fun _ _ _=>False) (fun v h=>R (.bW v) h) x0 x1 x2 x3 x4 h):aA Pg 44 [x0,x1,x2,x3,x4] h M R:=
 fin (n:=45) (pl:=[(6,⟨[(none,[(0,false),(1,false),(2,false),(3,true),(4,false),(5,false)])],true,[.mk (fr 6 5) [],.mk [(9,false),(6,false),(7,false),(8,false),(10,false)] []],[]⟩)]) (rs:=[]) (L:=rs) (fun c=>(a5 aS 0 1 2 3 4 c)) Tryz.mixed Tryz.func44 (fun c=>
(sq (a5 aS 0 1 2 3 4 c)
(sn
(sn
(sq (a5 n2 0 2 4 8 10 c)
(cd (a6 n1 0 2 4 8 10 34 c) tr tr))
(sm (a5 n3 0 1 2 4 8 c)))
(sq (a5 n9 0 1 2 4 8 c)
(cd (a6 n8 0 1 2 4 8 13 c) (sq (a5 n7 0 1 2 4 8 c)
(sq (a5 n6 0 1 2 4 8 c)
(sq (a4 n5 0 2 4 8 c)
(sl (a3 n4 0 4 8 c))))) tr))))) hp
attribute [simp] n1 n2 n3 n4 n5 n6 n7 n8 n9 aS
end tv
end
section
open Go.Ab
namespace F3
abbrev rs:List Nat:=[2]
def n1:N1:=fun _ R _ _ _ x2 h=>
R [x2] h
def n2:N2:=fun W R N E P gF JY h=>
aO gF JY (.sc (.bool false)) fun t1=>
n1 W R N E P t1 h
def n3:N3:=fun W R N E P x5 x8 gF h=>
bw true gF (
ai Pg .eql 3 false x8 x5 fun t2=>
n2 W R N E P gF t2 h) (
n2 W R N E P gF ab h)
def n4:N4:=fun W R N E P x5 x8 uG pj h=>
aO uG pj (.sc (.bool false)) fun t3=>
n3 W R N E P x5 x8 t3 h
def n5:N5:=fun W R N E P x4 x5 x7 x8 uG h=>
bw true uG (
ai Pg .eql 3 false x7 x4 fun t4=>
n4 W R N E P x5 x8 uG t4 h) (
n4 W R N E P x5 x8 uG ab h)
def n6:N6:=fun W R N E P x3 x4 x5 x6 x7 x8 h=>
ao (some true) (some 3) x6 h fun t5 _=>
ao (some true) (some 3) x3 h fun t7 _=>
aq Pg W 7 [t5,t7] h (fun t9 mP=>
n5 W R N E P x4 x5 x7 x8 t9 mP) P
def n7:N4:=fun W R N E P x0 x3 x4 x5 h=>
aq Pg W 6 [x0] h (fun t11 rX=>
cW t11 0 fun t13=>
cW t11 1 fun t14=>
cW t11 2 fun t15=>
bx (some [.int .i64 0,.int .i64 0,.slice none 0 0]) 3 25 rX fun t16 nR=>
aD (some 3) t16 t13 nR W fun rV=>
n6 W R N E P x3 x4 x5 t16 t14 t15 rV) P
def n8:N1:=fun W R N E P x0 h=>
aq Pg W 5 [x0] h (fun t19 rU=>
cW t19 0 fun t21=>
cW t19 1 fun t22=>
cW t19 2 fun t23=>
bx (some [.int .i64 0,.int .i64 0,.slice none 0 0]) 3 25 rU fun t24 nQ=>
aD (some 3) t24 t21 nQ W fun nP=>
n7 W R N E P x0 t24 t22 t23 nP) P
def aS:N2:=fun W R N E P x0 ax h=>
aF ax (
R [(.sc (.bool false))] h) (
n8 W R N E P x0 h)
def bj:N1:=fun W R N E P x0 h=>
aq Pg W 4 [] h (fun t27 qc=>
iH .not t27 fun t29=>
aS W R N E P x0 t29 qc) P
def a_:N1:=fun W R N E P x0 h=>
bj W R N E P x0 h
theorem aM{x0:AV}{h:AH}{M:WK}{R:RK}(hp:a_ (fun id=>M id\/h.next<=id) (aJ Pg [.tmp 2] R) (aJ Pg [.tmp 2] R) (fun _ _ _=>False) (fun v h=>R (.bW v) h) x0 h):aA Pg 3 [x0] h M R:=
 fin (n:=36) (pl:=[(5,⟨[(none,(fr 0 4)),(some (3,true),(fr 4 3)),(none,(fr 7 2)),(some (8,true),(fr 9 3)),(none,(fr 12 2))],false,[],[]⟩)]) (rs:=[.tmp 2]) (L:=rs) (fun c=>(a1 a_ 0 c)) Tryz.mixed Tryz.func3 (fun c=>
(sq (a1 a_ 0 c)
(sn
(sq (a1 n8 0 c)
(sq (a4 n7 0 3 4 5 c)
(sn
(sm (a1 n1 2 c))
(gr (gn (a6 n6 3 4 5 6 7 8 c) (gx (a5 n5 4 5 7 8 26 c) (gn (a4 n4 5 8 26 29 c) (gx (a3 n3 5 8 31 c) (gl (a2 n2 31 34 c))))))))))
(sq (a1 bj 0 c)
(cd (a2 aS 0 10 c) tr tr))))) hp
attribute [simp] n1 n2 n3 n4 n5 n6 n7 n8 aS bj a_
end F3
namespace F5
abbrev rs:List Nat:=[2,3,4]
def n1:N2:=fun W R _ _ P x2 x5 h=>
aq Pg W 9 [x5] h (fun t1 h2=>
cW t1 0 fun t3=>
cW t1 1 fun t4=>
cW t1 2 fun t5=>
aD (some 3) x2 t3 h2 W fun h6=>
R [x2,t4,t5] h6) P
def n2:N3:=fun W R _ _ _ x2 x6 x7 h=>
cN (some ([.int .i64 0,.int .i64 0,.slice none 0 0],.inl [(0,1),(1,1),(2,1)])) [] fun t7=>
aD (some 3) x2 t7 h W fun h8=>
R [x2,x6,x7] h8
def n3:N5:=fun W R N E P x2 x5 x6 x7 bC h=>
aF bC (
n2 W R N E P x2 x6 x7 h) (
n1 W R N E P x2 x5 h)
def n4:N4:=fun W R N E P x2 x5 x6 x7 h=>
ai Pg .neq 3 true x7 (.sc (.int .i64 0)) fun t9=>
n3 W R N E P x2 x5 x6 x7 t9 h
def n5:N2:=fun W R N E P x0 x2 h=>
aq Pg W 8 [x0] h (fun t10 mO=>
cW t10 0 fun t12=>
cW t10 1 fun t13=>
cW t10 2 fun t14=>
n4 W R N E P x2 t12 t13 t14 mO) P
def n6:N1:=fun W R N E P x0 h=>
bx (some [.int .i64 0,.int .i64 0,.slice none 0 0]) 3 25 h fun t15 rW=>
n5 W R N E P x0 t15 rW
theorem aM{x0:AV}{h:AH}{M:WK}{R:RK}(hp:n6 (fun id=>M id\/h.next<=id) (aJ Pg [.cell 2 25,.tmp 3,.tmp 4] R) (aJ Pg [.cell 2 25,.tmp 3,.tmp 4] R) (fun _ _ _=>False) (fun v h=>R (.bW v) h) x0 h):aA Pg 5 [x0] h M R:=
 fin (n:=24) (pl:=[]) (rs:=[.cell 2 25,.tmp 3,.tmp 4]) (L:=rs) (fun c=>(a1 n6 0 c)) Tryz.mixed Tryz.func5 (fun c=>
(sq (a1 n6 0 c)
(sq (a2 n5 0 2 c)
(sn
(sl (a2 n1 2 5 c))
(sq (a4 n4 2 5 6 7 c)
(cd (a5 n3 2 5 6 7 15 c) (sl (a3 n2 2 6 7 c)) tr)))))) hp
attribute [simp] n1 n2 n3 n4 n5 n6
end F5
namespace F4
abbrev rs:List Nat:=[0]
def n1:N1:=fun _ R _ _ _ x0 h=>
R [x0] h
def n2:N2:=fun W R N E P EH JU h=>
aO EH JU (.sc (.bool false)) fun t1=>
n1 W R N E P t1 h
def n3:N2:=fun W R N E P x1 EH h=>
bw true EH (
ah (some 2) x1 fun t2=>
ao (some false) (some 1) t2 h fun t3 _=>
bB (some (7,none)) t3 (.sc (.int .i64 1)) fun t5=>
ah (some 6) t5 fun t6=>
ao (some false) (some 1) t6 h fun t7 _=>
ai Pg .eql 34 true t7 (.sc (.int .u64 4)) fun t9=>
n2 W R N E P EH t9 h) (
n2 W R N E P EH ab h)
def n4:N3:=fun W R N E P x1 sA Tc h=>
aO sA Tc (.sc (.bool false)) fun t10=>
n3 W R N E P x1 t10 h
def n5:N2:=fun W R N E P x1 sA h=>
bw true sA (
ah (some 2) x1 fun t11=>
ao (some false) (some 1) t11 h fun t12 _=>
bB (some (7,none)) t12 (.sc (.int .i64 1)) fun t14=>
ah (some 5) t14 fun t15=>
ao (some false) (some 1) t15 h fun t16 _=>
ai Pg .eql 34 true t16 (.sc (.int .u64 4)) fun t18=>
n4 W R N E P x1 sA t18 h) (
n4 W R N E P x1 sA ab h)
def n6:N3:=fun W R N E P x1 EI Te h=>
aO EI Te (.sc (.bool false)) fun t19=>
n5 W R N E P x1 t19 h
def n7:N2:=fun W R N E P x1 EI h=>
bw true EI (
ah (some 2) x1 fun t20=>
ao (some false) (some 1) t20 h fun t21 _=>
bB (some (7,none)) t21 (.sc (.int .i64 1)) fun t23=>
ah (some 4) t23 fun t24=>
ao (some false) (some 1) t24 h fun t25 _=>
n6 W R N E P x1 EI t25 h) (
n6 W R N E P x1 EI ab h)
def n8:N3:=fun W R N E P x1 A5 jc h=>
aO A5 jc (.sc (.bool false)) fun t27=>
n7 W R N E P x1 t27 h
def n9:N2:=fun W R N E P x1 A5 h=>
bw true A5 (
ah (some 2) x1 fun t28=>
ao (some false) (some 1) t28 h fun t29 _=>
bB (some (7,none)) t29 (.sc (.int .i64 0)) fun t31=>
ah (some 3) t31 fun t32=>
ao (some false) (some 1) t32 h fun t33 _=>
ai Pg .eql 3 true t33 (.sc (.int .i64 2)) fun t35=>
n8 W R N E P x1 A5 t35 h) (
n8 W R N E P x1 A5 ab h)
def aS:N3:=fun W R N E P x1 A7 Th h=>
aO A7 Th (.sc (.bool false)) fun t36=>
n9 W R N E P x1 t36 h
def bj:N2:=fun W R N E P x1 A7 h=>
bw true A7 (
ah (some 2) x1 fun t37=>
ao (some false) (some 1) t37 h fun t38 _=>
(aY t38=false)/\bL t38 fun t40=>
ai Pg .eql 3 true t40 (.sc (.int .i64 2)) fun t41=>
aS W R N E P x1 A7 t41 h) (
aS W R N E P x1 A7 ab h)
def a_:N3:=fun W R N E P x1 w7 jN h=>
aO w7 jN (.sc (.bool false)) fun t42=>
bj W R N E P x1 t42 h
def bH:N2:=fun W R N E P x1 w7 h=>
bw true w7 (
ah (some 1) x1 fun t43=>
ao (some false) (some 1) t43 h fun t44 _=>
ai Pg .eql 3 true t44 (.sc (.int .i64 3)) fun t46=>
a_ W R N E P x1 w7 t46 h) (
a_ W R N E P x1 w7 ab h)
def bP:N1:=fun W R N E P x1 h=>
ah (some 0) x1 fun t47=>
ao (some false) (some 1) t47 h fun t48 _=>
ai Pg .eql 3 true t48 (.sc (.int .i64 1)) fun t50=>
bH W R N E P x1 t50 h
def bR:N2:=fun W R N E P x1 fY h=>
aF fY (
R [(.sc (.bool false))] h) (
bP W R N E P x1 h)
def b5:N3:=fun W R N E P x1 iR kh h=>
aO iR (.sc (.bool true)) kh fun t51=>
bR W R N E P x1 t51 h
def ck:N3:=fun W R N E P x1 x8 iR h=>
bw false iR (
ai Pg .neq 3 true x8 (.sc (.int .i64 26)) fun t52=>
b5 W R N E P x1 iR t52 h) (
b5 W R N E P x1 iR ab h)
def cp:N4:=fun W R N E P x1 x8 kR nI h=>
aO kR (.sc (.bool true)) nI fun t53=>
ck W R N E P x1 x8 t53 h
def cP:N4:=fun W R N E P x1 x8 x9 kR h=>
bw false kR (
ai Pg .neq 28 true x9 (.sc (.int .i64 115)) fun t54=>
cp W R N E P x1 x8 kR t54 h) (
cp W R N E P x1 x8 kR ab h)
def cT:N5:=fun W R N E P x1 x8 x9 l9 JX h=>
aO l9 (.sc (.bool true)) JX fun t55=>
cP W R N E P x1 x8 x9 t55 h
def cw:N5:=fun W R N E P x1 x5 x8 x9 l9 h=>
bw false l9 (
ai Pg .neq 3 true x5 (.sc (.int .i64 11)) fun t56=>
cT W R N E P x1 x8 x9 l9 t56 h) (
cT W R N E P x1 x8 x9 l9 ab h)
def cL:N6:=fun W R N E P x1 x5 x8 x9 iM pS h=>
aO iM (.sc (.bool true)) pS fun t57=>
cw W R N E P x1 x5 x8 x9 t57 h
def cS:N6:=fun W R N E P x1 x5 x6 x8 x9 iM h=>
bw false iM (
ai Pg .neq 28 true x6 (.sc (.int .i64 114)) fun t58=>
cL W R N E P x1 x5 x8 x9 iM t58 h) (
cL W R N E P x1 x5 x8 x9 iM ab h)
def cF:N7:=fun W R N E P x1 x5 x6 x8 x9 pj gF h=>
aO pj (.sc (.bool true)) gF fun t59=>
cS W R N E P x1 x5 x6 x8 x9 t59 h
def cC:N7:=fun W R N E P x1 x2 x5 x6 x8 x9 pj h=>
bw false pj (
ai Pg .neq 3 true x2 (.sc (.int .i64 0)) fun t60=>
cF W R N E P x1 x5 x6 x8 x9 pj t60 h) (
cF W R N E P x1 x5 x6 x8 x9 pj ab h)
def cB:N8:=fun W R N E P x1 x2 x5 x6 x8 x9 oR w_ h=>
aO oR (.sc (.bool true)) w_ fun t61=>
cC W R N E P x1 x2 x5 x6 x8 x9 t61 h
def c9:N8:=fun W R N E P x1 x2 x3 x5 x6 x8 x9 oR h=>
bw false oR (
ai Pg .neq 28 true x3 (.sc (.int .i64 0)) fun t62=>
cB W R N E P x1 x2 x5 x6 x8 x9 oR t62 h) (
cB W R N E P x1 x2 x5 x6 x8 x9 oR ab h)
def cU:N7:=fun W R N E P x1 x2 x3 x5 x6 x8 x9 h=>
c9 W R N E P x1 x2 x3 x5 x6 x8 x9 (.sc (.bool false)) h
def dn:N5:=fun W R N E P x1 x2 x3 x5 x6 h=>
aq Pg W 6 [(.sc (.string ⟨#[113,117,98,105,116,115,32,113,32,49,59,32,114,101,112,101,97,116,32,53,48,48,48,32,123,32,120,32,113,91,48,93,59,32,125]⟩))] h (fun t63 wI=>
cW t63 0 fun t65=>
cW t63 1 fun t66=>
cW t63 2 fun t67=>
bx (some [.int .i64 0,.int .i64 0,.slice none 0 0]) 3 25 wI fun t68 Gg=>
aD (some 3) t68 t65 Gg W fun xX=>
cU W R N E P x1 x2 x3 x5 x6 t66 t67 xX) P
def dS:N3:=fun W R N E P x1 x2 x3 h=>
aq Pg W 6 [(.sc (.string ⟨#[103,97,116,101,32,103,32,120,32,123,32,103,32,120,59,32,125]⟩))] h (fun t71 Gf=>
cW t71 0 fun t73=>
cW t71 1 fun t74=>
cW t71 2 fun t75=>
bx (some [.int .i64 0,.int .i64 0,.slice none 0 0]) 3 25 Gf fun t76 Vi=>
aD (some 3) t76 t73 Vi W fun Cb=>
dn W R N E P x1 x2 x3 t74 t75 Cb) P
def dZ:N0:=fun W R N E P h=>
aq Pg W 6 [(.sc (.string ⟨#[113,117,98,105,116,115,32,113,32,49,59,32,98,105,116,115,32,99,32,50,59,32,98,105,116,115,32,100,32,49,59,32,109,101,97,115,117,114,101,32,113,91,48,93,32,100,91,48,93,59,32,105,102,32,100,32,49,32,123,32,120,32,113,91,48,93,59,32,125]⟩))] h (fun t79 xW=>
cW t79 0 fun t81=>
cW t79 1 fun t82=>
cW t79 2 fun t83=>
bx (some [.int .i64 0,.int .i64 0,.slice none 0 0]) 3 25 xW fun t84 ri=>
aD (some 3) t84 t81 ri W fun LD=>
dS W R N E P t84 t82 t83 LD) P
def eC:N0:=fun W R N E P h=>
dZ W R N E P h
theorem aM{h:AH}{M:WK}{R:RK}(hp:eC (fun id=>M id\/h.next<=id) (aJ Pg [.tmp 0] R) (aJ Pg [.tmp 0] R) (fun _ _ _=>False) (fun v h=>R (.bW v) h) h):aA Pg 4 [] h M R:=
 fin (n:=94) (pl:=[(4,⟨[(none,(fr 0 1)),(some (0,false),(fr 1 2)),(none,(fr 3 2)),(some (4,false),(fr 5 2)),(none,(fr 7 2)),(some (8,false),(fr 9 2)),(none,(fr 11 2)),(some (12,false),(fr 13 2)),(none,(fr 15 2)),(some (16,false),(fr 17 2)),(none,(fr 19 2)),(some (20,false),(fr 21 2)),(none,(fr 23 1))],false,[],[]⟩),(6,⟨[(none,(fr 0 4)),(some (3,true),(fr 4 3)),(none,(fr 7 2)),(some (8,true),(fr 9 4)),(none,(fr 13 2)),(some (14,true),(fr 15 6)),(none,(fr 21 2)),(some (22,true),(fr 23 5)),(none,(fr 28 2)),(some (29,true),(fr 30 6)),(none,(fr 36 2)),(some (37,true),(fr 38 6)),(none,(fr 44 2))],false,[],[]⟩)]) (rs:=[.tmp 0]) (L:=rs) (fun c=>(a0 eC c)) Tryz.mixed Tryz.func4 (fun c=>
(sq (a0 eC c)
(sq (a0 dZ c)
(sq (a3 dS 1 2 3 c)
(sq (a5 dn 1 2 3 5 6 c)
(sn
(sn
(sm (a1 n1 0 c))
(gr (gn (a1 bP 1 c) (gx (a2 bH 1 52 c) (gn (a3 a_ 1 52 55 c) (gx (a2 bj 1 57 c) (gn (a3 aS 1 57 61 c) (gx (a2 n9 1 63 c) (gn (a3 n8 1 63 69 c) (gx (a2 n7 1 71 c) (gn (a3 n6 1 71 76 c) (gx (a2 n5 1 78 c) (gn (a3 n4 1 78 84 c) (gx (a2 n3 1 86 c) (gl (a2 n2 86 92 c))))))))))))))))
(sn
(cd (a2 bR 1 48 c) tr tr)
(gr (gn (a7 cU 1 2 3 5 6 8 9 c) (gx (a8 c9 1 2 3 5 6 8 9 25 c) (gn (a8 cB 1 2 5 6 8 9 25 27 c) (gx (a7 cC 1 2 5 6 8 9 29 c) (gn (a7 cF 1 5 6 8 9 29 31 c) (gx (a6 cS 1 5 6 8 9 33 c) (gn (a6 cL 1 5 8 9 33 35 c) (gx (a5 cw 1 5 8 9 37 c) (gn (a5 cT 1 8 9 37 39 c) (gx (a4 cP 1 8 9 41 c) (gn (a4 cp 1 8 41 43 c) (gx (a3 ck 1 8 45 c) (gl (a3 b5 1 45 47 c)))))))))))))))))))))) hp
attribute [simp] n1 n2 n3 n4 n5 n6 n7 n8 n9 aS bj a_ bH bP bR b5 ck cp cP cT cw cL cS cF cC cB c9 cU dn dS dZ eC
end F4
namespace F6
abbrev rs:List Nat:=[2,3,4]
def n1:N2:=fun W R _ _ P x2 x5 h=>
aq Pg W 11 [x5] h (fun t1 h2=>
cW t1 0 fun t3=>
cW t1 1 fun t4=>
cW t1 2 fun t5=>
aD (some 3) x2 t3 h2 W fun h6=>
R [x2,t4,t5] h6) P
def n2:N3:=fun W R _ _ _ x2 x6 x7 h=>
cN (some ([.int .i64 0,.int .i64 0,.slice none 0 0],.inl [(0,1),(1,1),(2,1)])) [] fun t7=>
aD (some 3) x2 t7 h W fun h8=>
R [x2,x6,x7] h8
def n3:N5:=fun W R N E P x2 x5 x6 x7 bC h=>
aF bC (
n2 W R N E P x2 x6 x7 h) (
n1 W R N E P x2 x5 h)
def n4:N4:=fun W R N E P x2 x5 x6 x7 h=>
ai Pg .neq 28 true x7 (.sc (.int .i64 0)) fun t9=>
n3 W R N E P x2 x5 x6 x7 t9 h
def n5:N2:=fun W R N E P x0 x2 h=>
aq Pg W 10 [x0] h (fun t10 mO=>
cW t10 0 fun t12=>
cW t10 1 fun t13=>
cW t10 2 fun t14=>
n4 W R N E P x2 t12 t13 t14 mO) P
def n6:N1:=fun W R N E P x0 h=>
bx (some [.int .i64 0,.int .i64 0,.slice none 0 0]) 3 25 h fun t15 rW=>
n5 W R N E P x0 t15 rW
theorem aM{x0:AV}{h:AH}{M:WK}{R:RK}(hp:n6 (fun id=>M id\/h.next<=id) (aJ Pg [.cell 2 25,.tmp 3,.tmp 4] R) (aJ Pg [.cell 2 25,.tmp 3,.tmp 4] R) (fun _ _ _=>False) (fun v h=>R (.bW v) h) x0 h):aA Pg 6 [x0] h M R:=
 fin (n:=24) (pl:=[]) (rs:=[.cell 2 25,.tmp 3,.tmp 4]) (L:=rs) (fun c=>(a1 n6 0 c)) Tryz.mixed Tryz.func6 (fun c=>
(sq (a1 n6 0 c)
(sq (a2 n5 0 2 c)
(sn
(sl (a2 n1 2 5 c))
(sq (a4 n4 2 5 6 7 c)
(cd (a5 n3 2 5 6 7 15 c) (sl (a3 n2 2 6 7 c)) tr)))))) hp
attribute [simp] n1 n2 n3 n4 n5 n6
end F6
end
end Go.Proofs.YtjehibknlmehmaaGreat
