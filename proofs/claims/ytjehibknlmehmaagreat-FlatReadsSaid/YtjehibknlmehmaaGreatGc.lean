/- Bodies of the circuit checks; printed. No condition. -/
import Derived.Test.YtjehibknlmehmaaGreatGl
set_option maxRecDepth 100000
namespace Go.Proofs.YtjehibknlmehmaaGreat
open Go.Ab
namespace mV
abbrev rs:List Nat:=[2,3]
def n1:N0:=fun _ R _ _ _ h=>
R [(.sc (.int .i64 0)),(.sc (.int .i64 0))] h
def n2:N5:=fun _ _ N _ _ x1 x4 gF jy iM h=>
ai Pg .add 3 true iM (.sc (.int .i64 1)) fun t1=>
N [x1,x4,gF,jy,t1] h
def n4:N7:=fun W R N E P x1 x4 x5 gF jy iM lL h=>
aF lL (
R [x5,(.sc (.int .i64 116))] h) (
n2 W R N E P x1 x4 gF jy iM h)
def n5:N6:=fun W R N E P x1 x4 x5 gF jy iM h=>
ai Pg .gtr 3 true x4 (.sc (.int .i64 36)) fun t2=>
n4 W R N E P x1 x4 x5 gF jy iM t2 h
def n6:N7:=fun W R N E P x1 x4 x5 x6 gF jy iM h=>
ao (some true) (some 7) x6 h fun t3 _=>
aq Pg W 69 [t3] h (fun t5 h6=>
ai Pg .add 3 false x4 t5 fun t7=>
n5 W R N E P x1 t7 x5 gF jy iM h6) P
def n8:N9:=fun W R N E P x1 x4 x5 x6 x7 gF jy iM qU h=>
aF qU (
R [x5,x7] h) (
n6 W R N E P x1 x4 x5 x6 gF jy iM h)
def n9:N8:=fun W R N E P x1 x4 x5 x6 x7 gF jy iM h=>
ai Pg .neq 28 true x7 (.sc (.int .i64 0)) fun t8=>
n8 W R N E P x1 x4 x5 x6 x7 gF jy iM t8 h
def aS:N7:=fun W R N E P x1 x4 x5 x6 gF jy iM h=>
ao (some true) (some 3) x1 h fun t9 _=>
ao (some true) (some 7) x6 h fun t11 _=>
aq Pg W 68 [t9,t11] h (fun t13 z6=>
n9 W R N E P x1 x4 x5 x6 t13 gF jy iM z6) P
def bj:N5:=fun W R N E P x1 x4 gF jy iM h=>
bB (some (7,none)) gF iM fun t15=>
ao (some true) (some 7) t15 h fun t16 _=>
bx (some [.int .i64 0,.string ⟨#[]⟩,.slice none 0 0,.int .i64 0,.bool false,.int .u64 0,.int .u64 0]) 7 36 h fun t18 mM=>
aD (some 7) t18 t16 mM W fun rU=>
aS W R N E P x1 x4 iM t18 gF jy iM rU
def a_:N6:=fun W R N E P x1 x4 gF jy iM JY h=>
aF JY (
bj W R N E P x1 x4 gF jy iM h) (
E 0 [] h)
def bH:N5:=fun W R N E P x1 x4 gF jy iM h=>
ai Pg .lss 3 false iM jy fun t21=>
a_ W R N E P x1 x4 gF jy iM t21 h
def cG:GK:=fun W R N E P N' vs h=>bH W R N' (fun(i:Nat) (vs:List AV) (h:AH)=>if i=0 then n1 W R N E P h else E i vs h) P (vs.getD 0 ab) (vs.getD 1 ab) (vs.getD 2 ab) (vs.getD 3 ab) (vs.getD 4 ab) h
def bP:N5:=fun W R N E P x1 x4 gF jy iM h=>
dK (cG W R N E P) [x1,x4,gF,jy,iM] h
def bV:N2:=fun W R N E P x1 x4 h=>
ah (some 2) x1 fun t22=>
ao (some false) (some 1) t22 h fun t23 _=>
(aY t23=false)/\bL t23 fun t25=>
bP W R N E P x1 x4 t23 t25 (.sc (.int .i64 0)) h
def bR:N1:=fun W R N E P x1 h=>
bV W R N E P x1 (.sc (.int .i64 0)) h
def ck:N2:=fun W R N E P x1 pj h=>
aF pj (
R [(.sc (.int .i64 0)),(.sc (.int .i64 115))] h) (
bR W R N E P x1 h)
def cp:N1:=fun W R N E P x1 h=>
ah (some 2) x1 fun t26=>
ao (some false) (some 1) t26 h fun t27 _=>
(aY t27=false)/\bL t27 fun t29=>
ai Pg .gtr 3 true t29 (.sc (.int .i64 4096)) fun t30=>
ck W R N E P x1 t30 h
def cw:N3:=fun W R N E P x1 qV kl h=>
aO qV (.sc (.bool true)) kl fun t31=>
aF t31 (
R [(.sc (.int .i64 0)),(.sc (.int .i64 2))] h) (
cp W R N E P x1 h)
def cS:N3:=fun W R N E P x1 du n_ h=>
aO du (.sc (.bool true)) n_ fun t36=>
bw false t36 (
ah (some 1) x1 fun t32=>
ao (some false) (some 1) t32 h fun t33 _=>
ai Pg .gtr 3 true t33 (.sc (.int .i64 64)) fun t35=>
cw W R N E P x1 t36 t35 h) (
cw W R N E P x1 t36 ab h)
def cC:N3:=fun W R N E P x1 ay aX h=>
aO ay (.sc (.bool true)) aX fun t41=>
bw false t41 (
ah (some 1) x1 fun t37=>
ao (some false) (some 1) t37 h fun t38 _=>
ai Pg .lss 3 true t38 (.sc (.int .i64 0)) fun t40=>
cS W R N E P x1 t41 t40 h) (
cS W R N E P x1 t41 ab h)
def cU:N1:=fun W R N E P x0 h=>
eR 3 25 x0 h fun t50 sS=>
ah (some 0) t50 fun t46=>
ao (some false) (some 1) t46 sS fun t47 _=>
ai Pg .lss 3 true t47 (.sc (.int .i64 0)) fun t49=>
bw false t49 (
ah (some 0) t50 fun t42=>
ao (some false) (some 1) t42 sS fun t43 _=>
ai Pg .gtr 3 true t43 (.sc (.int .i64 64)) fun t45=>
cC W R N E P t50 t49 t45 sS) (
cC W R N E P t50 t49 ab sS)
theorem aM{x0:AV}{h:AH}{M:WK}{R:RK}(hp:cU (fun id=>M id\/h.next<=id) (aJ Pg [.tmp 2,.tmp 3] R) (aJ Pg [.tmp 2,.tmp 3] R) (fun _ _ _=>False) (fun v h=>R (.bW v) h) x0 h):aA Pg 25 [x0] h M R:=
 fin (n:=53) (pl:=[(1,⟨[(none,(fr 0 4)),(some (3,false),(fr 4 3)),(none,(fr 7 2)),(some (8,false),(fr 9 3)),(none,(fr 12 2)),(some (13,false),(fr 14 3)),(none,(fr 17 1))],false,[],[]⟩)]) (rs:=[.tmp 2,.tmp 3]) (L:=rs) (fun c=>(a1 cU 0 c)) Tryz.mixed Tryz.func25 (fun c=>
(sq (a1 cU 0 c)
(sn
(sn
(sq (a1 bR 1 c)
(sn
(sl (a0 n1 c))
(sq (a2 bV 1 4 c)
(bk 0 (lp [1,4,31,32,33] rs [(0,[])] (a5 bP 1 4 31 32 33 c) cG (fun i vs h=>if i=0 then n1 c.W c.R c.N c.E c.P h else c.E i vs h) (.b (.t .o)) fun c=>
(sq (a5 bH 1 4 31 32 33 c)
(sn
(sn
(sm (a5 n2 1 4 31 32 33 c))
(bk 1 (sq (a5 bj 1 4 31 32 33 c)
(sn
(sq (a7 n6 1 4 5 6 31 32 33 c)
(sq (a6 n5 1 4 5 31 32 33 c)
(cd (a7 n4 1 4 5 31 32 33 50 c) tr tr)))
(sq (a7 aS 1 4 5 6 31 32 33 c)
(sq (a8 n9 1 4 5 6 7 31 32 33 c)
(cd (a9 n8 1 4 5 6 7 31 32 33 42 c) tr tr)))))))
(cd (a6 a_ 1 4 31 32 33 34 c) tr tr))))))))
(sq (a1 cp 1 c)
(cd (a2 ck 1 29 c) tr tr)))
(sn
(ci tr tr)
(gr (gm (gz (gn (a3 cC 1 11 14 c) (gz (gn (a3 cS 1 16 19 c) (gz (gl (a3 cw 1 21 24 c))))))))))))) hp
attribute [simp] n1 n2 n4 n5 n6 n8 n9 aS bj a_ bH bV bR ck cp cw cS cC cU
end mV
namespace dw
abbrev rs:List Nat:=[4]
def n1:N0:=fun _ R _ _ _ h=>
R [(.sc (.int .i64 0))] h
def n2:N4:=fun _ _ N _ _ x3 pn pk nU h=>
ai Pg .add 3 true nU (.sc (.int .i64 1)) fun t1=>
N [x3,pn,pk,t1] h
def n4:N5:=fun W R N E P x3 pn pk nU ME h=>
aF ME (
R [(.sc (.int .i64 113))] h) (
n2 W R N E P x3 pn pk nU h)
def n5:N6:=fun W R N E P x3 ax ay pn pk nU h=>
ah (some 2) x3 fun t2=>
ao (some false) (some 1) t2 h fun t3 _=>
ur (some 1) t3 none (some ax) h fun t5=>
aq Pg W 91 [t5,ay] h (fun t6 h7=>
n4 W R N E P x3 pn pk nU t6 h7) P
def n6:N4:=fun W R N E P x3 pn pk nU h=>
bB (some (1,none)) pn nU fun t8=>
ao (some false) (some 1) t8 h fun t9 _=>
n5 W R N E P x3 nU t9 pn pk nU h
def n7:N5:=fun W R N E P x3 pn pk nU MF h=>
aF MF (
n6 W R N E P x3 pn pk nU h) (
E 3 [] h)
def n8:N4:=fun W R N E P x3 pn pk nU h=>
ai Pg .lss 3 false nU pk fun t11=>
n7 W R N E P x3 pn pk nU t11 h
def cG:GK:=fun W R N E P N' vs h=>n8 W R N' (fun(i:Nat) (vs:List AV) (h:AH)=>if i=3 then n1 W R N E P h else E i vs h) P (vs.getD 0 ab) (vs.getD 1 ab) (vs.getD 2 ab) (vs.getD 3 ab) h
def n9:N4:=fun W R N E P x3 pn pk nU h=>
dK (cG W R N E P) [x3,pn,pk,nU] h
def aS:N1:=fun W R N E P x3 h=>
ah (some 2) x3 fun t12=>
ao (some false) (some 1) t12 h fun t13 _=>
(aY t13=false)/\bL t13 fun t15=>
n9 W R N E P x3 t13 t15 (.sc (.int .i64 0)) h
def a_:N2:=fun W R N E P x3 MH h=>
aF MH (
R [(.sc (.int .i64 112))] h) (
aS W R N E P x3 h)
def bH:N3:=fun W R N E P x3 um Zf h=>
aO um Zf (.sc (.bool false)) fun t16=>
a_ W R N E P x3 t16 h
def bP:N4:=fun W R N E P x3 um Al Zg h=>
bw true um (
aO Al (.sc (.bool true)) Zg fun t17=>
bH W R N E P x3 um t17 h) (
bH W R N E P x3 um ab h)
def bV:N4:=fun W R N E P x2 x3 um Al h=>
bw false Al (
ah (some 3) x3 fun t18=>
ao (some false) (some 1) t18 h fun t19 _=>
ah (some 1) x2 fun t21=>
ao (some false) (some 1) t21 h fun t22 _=>
ai Pg .geq 3 false t19 t22 fun t24=>
bP W R N E P x3 um Al t24 h) (
bP W R N E P x3 um Al ab h)
def b5:N2:=fun W R N E P x2 x3 h=>
ah (some 0) x3 fun t29=>
ao (some false) (some 1) t29 h fun t30 _=>
ai Pg .eql 3 true t30 (.sc (.int .i64 2)) fun t32=>
bw true t32 (
ah (some 3) x3 fun t25=>
ao (some false) (some 1) t25 h fun t26 _=>
ai Pg .lss 3 true t26 (.sc (.int .i64 0)) fun t28=>
bV W R N E P x2 x3 t32 t28 h) (
bV W R N E P x2 x3 t32 ab h)
def cP:N6:=fun _ R N _ _ x2 x3 qR jx ji Zl h=>
aF Zl (
R [(.sc (.int .i64 112))] h) (
ai Pg .add 3 true ji (.sc (.int .i64 1)) fun t33=>
N [x2,x3,qR,jx,t33] h)
def cT:N7:=fun W R N E P x2 x3 qR jx ji EU MK h=>
aO EU (.sc (.bool true)) MK fun t34=>
cP W R N E P x2 x3 qR jx ji t34 h
def cw:N7:=fun W R N E P x2 x3 x9 qR jx ji EU h=>
bw false EU (
ah (some 0) x2 fun t35=>
ao (some false) (some 1) t35 h fun t36 _=>
ai Pg .geq 3 false x9 t36 fun t38=>
cT W R N E P x2 x3 qR jx ji EU t38 h) (
cT W R N E P x2 x3 qR jx ji EU ab h)
def cL:N6:=fun W R N E P x2 x3 x9 qR jx ji h=>
ai Pg .lss 3 true x9 (.sc (.int .i64 0)) fun t39=>
cw W R N E P x2 x3 x9 qR jx ji t39 h
def cS:N5:=fun W R N E P x2 x3 qR jx ji h=>
bB (some (1,none)) qR ji fun t40=>
ao (some false) (some 1) t40 h fun t41 _=>
cL W R N E P x2 x3 t41 qR jx ji h
def cF:N6:=fun W R N E P x2 x3 qR jx ji jE h=>
aF jE (
cS W R N E P x2 x3 qR jx ji h) (
E 1 [x2,x3] h)
def cC:N5:=fun W R N E P x2 x3 qR jx ji h=>
ai Pg .lss 3 false ji jx fun t43=>
cF W R N E P x2 x3 qR jx ji t43 h
def iX:GK:=fun W R N E P N' vs h=>cC W R N' (fun(i:Nat) (vs:List AV) (h:AH)=>if i=1 then b5 W R N E P (vs.getD 0 ab) (vs.getD 1 ab) h else E i vs h) P (vs.getD 0 ab) (vs.getD 1 ab) (vs.getD 2 ab) (vs.getD 3 ab) (vs.getD 4 ab) h
def cB:N5:=fun W R N E P x2 x3 qR jx ji h=>
dK (iX W R N E P) [x2,x3,qR,jx,ji] h
def c9:N2:=fun W R N E P x2 x3 h=>
ah (some 2) x3 fun t44=>
ao (some false) (some 1) t44 h fun t45 _=>
(aY t45=false)/\bL t45 fun t47=>
cB W R N E P x2 x3 t45 t47 (.sc (.int .i64 0)) h
def dn:N3:=fun W R N E P x2 x3 JS h=>
aF JS (
R [(.sc (.int .i64 111))] h) (
c9 W R N E P x2 x3 h)
def dS:N3:=fun W R N E P x2 x3 x7 h=>
ah (some 2) x3 fun t48=>
ao (some false) (some 1) t48 h fun t49 _=>
(aY t49=false)/\bL t49 fun t51=>
ai Pg .neq 3 false t51 x7 fun t52=>
dn W R N E P x2 x3 t52 h
def eC:N4:=fun W R N E P x2 x3 x7 EF h=>
aF EF (
R [(.sc (.int .i64 80))] h) (
dS W R N E P x2 x3 x7 h)
def fl:N3:=fun W R N E P x2 x3 x7 h=>
ai Pg .eql 3 true x7 (.sc (.int .i64 0)) fun t53=>
eC W R N E P x2 x3 x7 t53 h
def fM:N2:=fun W R N E P x2 x3 h=>
ah (some 1) x3 fun t54=>
ao (some false) (some 1) t54 h fun t55 _=>
aq Pg W 90 [t55] h (fun t57 xZ=>
fl W R N E P x2 x3 t57 xZ) P
def fu:N4:=fun W R N E P x2 x3 x7 uE h=>
aF uE (
fM W R N E P x2 x3 h) (
dS W R N E P x2 x3 x7 h)
def fD:N3:=fun W R N E P x2 x3 x7 h=>
ah (some 0) x3 fun t59=>
ao (some false) (some 1) t59 h fun t60 _=>
ai Pg .eql 3 true t60 (.sc (.int .i64 1)) fun t62=>
fu W R N E P x2 x3 x7 t62 h
def fL:N2:=fun W R N E P x2 x3 h=>
fD W R N E P x2 x3 (.sc (.int .i64 1)) h
def e_:N3:=fun W R N E P x2 x3 A4 h=>
aF A4 (
R [(.sc (.int .i64 120))] h) (
fL W R N E P x2 x3 h)
def gf:N4:=fun W R N E P x2 x3 sA qS h=>
aO sA qS (.sc (.bool false)) fun t63=>
e_ W R N E P x2 x3 t63 h
def gI:N4:=fun W R N E P x2 x3 EJ wY h=>
aO EJ wY (.sc (.bool false)) fun t72=>
aF t72 (
e_ W R N E P x2 x3 t72 h) (
ah (some 0) x3 fun t68=>
ao (some false) (some 1) t68 h fun t69 _=>
ai Pg .neq 3 true t69 (.sc (.int .i64 2)) fun t71=>
bw true t71 (
ah (some 3) x3 fun t64=>
ao (some false) (some 1) t64 h fun t65 _=>
ai Pg .neq 3 true t65 (.sc (.int .i64 0)) fun t67=>
gf W R N E P x2 x3 t71 t67 h) (
gf W R N E P x2 x3 t71 ab h))
def jH:N2:=fun W R N E P x2 x3 h=>
ah (some 0) x3 fun t77=>
ao (some false) (some 1) t77 h fun t78 _=>
ai Pg .neq 3 true t78 (.sc (.int .i64 1)) fun t80=>
bw true t80 (
ah (some 1) x3 fun t73=>
ao (some false) (some 1) t73 h fun t74 _=>
ai Pg .neq 9 true t74 (.sc (.string ⟨#[]⟩)) fun t76=>
gI W R N E P x2 x3 t80 t76 h) (
gI W R N E P x2 x3 t80 ab h)
def gQ:N3:=fun W R N E P x2 x3 jy h=>
aF jy (
R [(.sc (.int .i64 120))] h) (
jH W R N E P x2 x3 h)
def jW:N5:=fun W R N E P x2 x3 x6 iR A8 h=>
aO iR A8 (.sc (.bool false)) fun t94=>
aF t94 (
gQ W R N E P x2 x3 t94 h) (
ah (some 5) x3 fun t89=>
ao (some false) (some 1) t89 h fun t90 _=>
ai Pg .andNot 34 false t90 x6 fun t92=>
ai Pg .neq 34 true t92 (.sc (.int .u64 0)) fun t93=>
aF t93 (
gQ W R N E P x2 x3 t93 h) (
ah (some 6) x3 fun t81=>
ao (some false) (some 1) t81 h fun t82 _=>
ah (some 5) x3 fun t84=>
ao (some false) (some 1) t84 h fun t85 _=>
ai Pg .andNot 34 false t82 t85 fun t87=>
ai Pg .neq 34 true t87 (.sc (.int .u64 0)) fun t88=>
gQ W R N E P x2 x3 t88 h))
def nL:N6:=fun W R N E P x2 x3 x6 iR jO w7 h=>
bw true iR (
aO jO (.sc (.bool true)) w7 fun t95=>
jW W R N E P x2 x3 x6 iR t95 h) (
jW W R N E P x2 x3 x6 iR ab h)
def rM:N5:=fun W R N E P x2 x3 x6 iR jO h=>
bw false jO (
ah (some 6) x3 fun t96=>
ao (some false) (some 1) t96 h fun t97 _=>
ai Pg .neq 34 true t97 (.sc (.int .u64 0)) fun t99=>
nL W R N E P x2 x3 x6 iR jO t99 h) (
nL W R N E P x2 x3 x6 iR jO ab h)
def BC:N5:=fun W R N E P x2 x3 x6 l9 EM h=>
aO l9 EM (.sc (.bool false)) fun t108=>
aF t108 (
gQ W R N E P x2 x3 t108 h) (
ah (some 4) x3 fun t104=>
ao (some false) (some 1) t104 h fun t105 _=>
iH .not t105 fun t107=>
bw true t107 (
ah (some 5) x3 fun t100=>
ao (some false) (some 1) t100 h fun t101 _=>
ai Pg .neq 34 true t101 (.sc (.int .u64 0)) fun t103=>
rM W R N E P x2 x3 x6 t107 t103 h) (
rM W R N E P x2 x3 x6 t107 ab h))
def Fw:N4:=fun W R N E P x2 x3 x5 x6 h=>
iH .not x5 fun t116=>
aF t116 (
gQ W R N E P x2 x3 t116 h) (
ah (some 4) x3 fun t113=>
ao (some false) (some 1) t113 h fun t114 _=>
bw true t114 (
ah (some 5) x3 fun t109=>
ao (some false) (some 1) t109 h fun t110 _=>
ai Pg .eql 34 true t110 (.sc (.int .u64 0)) fun t112=>
BC W R N E P x2 x3 x6 t114 t112 h) (
BC W R N E P x2 x3 x6 t114 ab h))
def P7:N5:=fun W R N E P x2 x3 x5 x6 gF h=>
aF gF (
Fw W R N E P x2 x3 x5 (.sc (.int .u64 18446744073709551615)) h) (
Fw W R N E P x2 x3 x5 x6 h)
def P6:N4:=fun W R N E P x2 x3 x5 x6 h=>
ah (some 1) x2 fun t117=>
ao (some false) (some 1) t117 h fun t118 _=>
ai Pg .eql 3 true t118 (.sc (.int .i64 64)) fun t120=>
P7 W R N E P x2 x3 x5 x6 t120 h
def DI:N3:=fun W R N E P x2 x3 x5 h=>
ah (some 1) x2 fun t121=>
ao (some false) (some 1) t121 h fun t122 _=>
ai Pg .shl 34 true (.sc (.int .u64 1)) t122 fun t124=>
ai Pg .sub 34 true t124 (.sc (.int .u64 1)) fun t125=>
P6 W R N E P x2 x3 x5 t125 h
def P5:N4:=fun W R N E P x2 x3 nZ EN h=>
aO nZ (.sc (.bool true)) EN fun t126=>
DI W R N E P x2 x3 t126 h
def P4:N4:=fun W R N E P x2 x3 bC fj h=>
aO bC (.sc (.bool true)) fj fun t131=>
bw false t131 (
ah (some 0) x3 fun t127=>
ao (some false) (some 1) t127 h fun t128 _=>
ai Pg .eql 3 true t128 (.sc (.int .i64 3)) fun t130=>
P5 W R N E P x2 x3 t131 t130 h) (
P5 W R N E P x2 x3 t131 ab h)
def P3:N2:=fun W R N E P x2 x3 h=>
ah (some 0) x3 fun t136=>
ao (some false) (some 1) t136 h fun t137 _=>
ai Pg .eql 3 true t137 (.sc (.int .i64 1)) fun t139=>
bw false t139 (
ah (some 0) x3 fun t132=>
ao (some false) (some 1) t132 h fun t133 _=>
ai Pg .eql 3 true t133 (.sc (.int .i64 2)) fun t135=>
P4 W R N E P x2 x3 t139 t135 h) (
P4 W R N E P x2 x3 t139 ab h)
def KM:N2:=fun W R N E P x0 x1 h=>
eR 3 25 x0 h fun t140 Gn=>
eR 7 36 x1 Gn fun t142 NY=>
P3 W R N E P t140 t142 NY
theorem aM{x0 x1:AV}{h:AH}{M:WK}{R:RK}(hp:KM (fun id=>M id\/h.next<=id) (aJ Pg [.tmp 4] R) (aJ Pg [.tmp 4] R) (fun _ _ _=>False) (fun v h=>R (.bW v) h) x0 x1 h):aA Pg 68 [x0,x1] h M R:=
 fin (n:=142) (pl:=[(1,⟨[(none,(fr 0 4)),(some (3,false),(fr 4 3)),(none,(fr 7 2)),(some (8,false),(fr 9 3)),(none,(fr 12 2))],false,[],[]⟩),(6,⟨[(none,(fr 0 3)),(some (2,true),(fr 3 3)),(none,(fr 6 2))],false,[],[]⟩),(7,⟨[(none,(fr 0 4)),(some (3,true),(fr 4 4)),(some (7,false),(fr 8 3)),(some (3,true),(fr 11 1)),(none,(fr 12 2))],false,[],[]⟩),(11,⟨[(none,(fr 0 4)),(some (3,true),(fr 4 3)),(none,(fr 7 2))],false,[],[]⟩),(12,⟨[(none,(fr 0 4)),(some (3,true),(fr 4 3)),(none,(fr 7 2))],false,[],[]⟩),(24,⟨[(none,(fr 0 3)),(some (2,false),(fr 3 4)),(none,(fr 7 1))],false,[],[]⟩),(27,⟨[(none,(fr 0 4)),(some (3,true),(fr 4 4)),(some (7,false),(fr 8 5)),(some (3,true),(fr 13 1)),(none,(fr 14 1))],false,[],[]⟩)]) (rs:=[.tmp 4]) (L:=rs) (fun c=>(a2 KM 0 1 c)) Tryz.mixed Tryz.func68 (fun c=>
(sq (a2 KM 0 1 c)
(sn
(sq (a3 DI 2 3 5 c)
(sn
(sn
(sq (a2 fL 2 3 c)
(sn
(sn
(sn
(sn
(sn
(sl (a0 n1 c))
(sq (a1 aS 3 c)
(bk 3 (lp [3,128,129,130] rs [(3,[])] (a4 n9 3 128 129 130 c) cG (fun i vs h=>if i=3 then n1 c.W c.R c.N c.E c.P h else c.E i vs h) (.b (.t .o)) fun c=>
(sq (a4 n8 3 128 129 130 c)
(sn
(sn
(sm (a4 n2 3 128 129 130 c))
(bk 4 (sq (a4 n6 3 128 129 130 c)
(sq (a6 n5 3 10 11 128 129 130 c)
(cd (a5 n4 3 128 129 130 140 c) tr tr)))))
(cd (a5 n7 3 128 129 130 131 c) tr tr)))))))
(sn
(cd (a2 a_ 3 126 c) tr tr)
(gr (gn (a2 b5 2 3 c) (gz (gx (a4 bV 2 3 115 119 c) (gx (a4 bP 3 115 119 124 c) (gl (a3 bH 3 115 125 c)))))))))
(sq (a2 c9 2 3 c)
(bk 1 (lp [2,3,97,98,99] rs [(1,[2,3])] (a5 cB 2 3 97 98 99 c) iX (fun i vs h=>if i=1 then b5 c.W c.R c.N c.E c.P (vs.getD 0 ab) (vs.getD 1 ab) h else c.E i vs h) (.b (.t .o)) fun c=>
(sq (a5 cC 2 3 97 98 99 c)
(sn
(sn
tr
(bk 2 (sq (a5 cS 2 3 97 98 99 c)
(sn
(cd (a6 cP 2 3 97 98 99 110 c) tr tr)
(gr (gn (a6 cL 2 3 9 97 98 99 c) (gx (a7 cw 2 3 9 97 98 99 105 c) (gl (a7 cT 2 3 97 98 99 105 109 c)))))))))
(cd (a6 cF 2 3 97 98 99 100 c) tr tr)))))))
(sq (a3 dS 2 3 7 c)
(cd (a3 dn 2 3 95 c) tr tr)))
(sq (a3 fD 2 3 7 c)
(cd (a4 fu 2 3 7 85 c) (sq (a2 fM 2 3 c)
(sq (a3 fl 2 3 7 c)
(cd (a4 eC 2 3 7 90 c) tr tr))) tr))))
(bk 0 (sn
(cd (a3 gQ 2 3 32 c) tr (sn
(cd (a3 e_ 2 3 66 c) tr tr)
(sn
(ci tr (gr (gm (gz (gl (a4 gf 2 3 78 81 c))))))
(gr (gn (a2 jH 2 3 c) (gz (gl (a4 gI 2 3 70 73 c))))))))
(sq (a4 Fw 2 3 5 6 c)
(ci tr (sn
(ci tr (sn
(ci tr (si (ci tr tr)))
(gr (gm (gz (gx (a5 rM 2 3 6 45 49 c) (gx (a6 nL 2 3 6 45 49 52 c) (gl (a5 jW 2 3 6 45 53 c)))))))))
(gr (gm (gz (gl (a5 BC 2 3 6 37 40 c)))))))))))
(sq (a4 P6 2 3 5 6 c)
(cd (a5 P7 2 3 5 6 31 c) tr tr))))
(gr (gn (a2 P3 2 3 c) (gz (gn (a4 P4 2 3 15 18 c) (gz (gl (a4 P5 2 3 20 23 c)))))))))) hp
attribute [simp] n1 n2 n4 n5 n6 n7 n8 aS a_ bH bP bV b5 cP cT cw cL cS cF cC c9 dn dS eC fl fM fu fD fL e_ gf gI jH gQ jW nL rM BC Fw P7 P6 DI P5 P4 P3 KM
end dw
namespace Iz
abbrev rs:List Nat:=[2]
def n1:N1:=fun W R _ _ P x1 h=>
ah (some 1) x1 fun t1=>
ao (some false) (some 1) t1 h fun t2 _=>
aq Pg W 92 [t2] h (fun t4 h5=>
R [t4] h5) P
def n3:N2:=fun W R N E P x1 x5 h=>
aF x5 (
R [(.sc (.int .i64 0))] h) (
n1 W R N E P x1 h)
def n4:N1:=fun W R N E P x1 h=>
ah (some 0) x1 fun t6=>
ao (some false) (some 1) t6 h fun t7 _=>
ai Pg .neq 3 true t7 (.sc (.int .i64 1)) fun t9=>
n3 W R N E P x1 t9 h
def n5:N1:=fun W R N E P x0 h=>
eR 7 36 x0 h fun t10 mO=>
n4 W R N E P t10 mO
theorem aM{x0:AV}{h:AH}{M:WK}{R:RK}(hp:n5 (fun id=>M id\/h.next<=id) (aJ Pg [.tmp 2] R) (aJ Pg [.tmp 2] R) (fun _ _ _=>False) (fun v h=>R (.bW v) h) x0 h):aA Pg 69 [x0] h M R:=
 fin (n:=9) (pl:=[]) (rs:=[.tmp 2]) (L:=rs) (fun c=>(a1 n5 0 c)) Tryz.mixed Tryz.func69 (fun c=>
(sq (a1 n5 0 c)
(sn
(sl (a1 n1 1 c))
(sq (a1 n4 1 c)
(cd (a2 n3 1 5 c) tr tr))))) hp
attribute [simp] n1 n3 n4 n5
end Iz
namespace ny
abbrev rs:List Nat:=[2,3]
def n1:N0:=fun _ R _ _ _ h=>
R [(.sc (.int .i64 0)),(.sc (.int .i64 0))] h
def n2:N3:=fun _ _ N _ _ x1 x4 x5 h=>
ai Pg .add 3 true x5 (.sc (.int .i64 1)) fun t1=>
N [x1,x4,t1] h
def n4:N4:=fun W R N E P x1 x4 x5 wZ h=>
aF wZ (
R [x5,(.sc (.int .i64 116))] h) (
n2 W R N E P x1 x4 x5 h)
def n5:N3:=fun W R N E P x1 x4 x5 h=>
ai Pg .gtr 3 true x4 (.sc (.int .i64 36)) fun t2=>
n4 W R N E P x1 x4 x5 t2 h
def n6:N3:=fun W R N E P x1 x4 x5 h=>
ah (some 2) x1 fun t3=>
ao (some false) (some 1) t3 h fun t4 _=>
bB (some (7,none)) t4 x5 fun t6=>
ao (some true) (some 7) t6 h fun t7 _=>
aq Pg W 48 [t7] h (fun t9 mP=>
ai Pg .add 3 false x4 t9 fun t11=>
n5 W R N E P x1 t11 x5 mP) P
def n8:N5:=fun W R N E P x1 x4 x5 x6 kh h=>
aF kh (
R [x5,x6] h) (
n6 W R N E P x1 x4 x5 h)
def n9:N4:=fun W R N E P x1 x4 x5 x6 h=>
ai Pg .neq 3 true x6 (.sc (.int .i64 0)) fun t12=>
n8 W R N E P x1 x4 x5 x6 t12 h
def aS:N3:=fun W R N E P x1 x4 x5 h=>
ah (some 2) x1 fun t13=>
ao (some false) (some 1) t13 h fun t14 _=>
bB (some (7,none)) t14 x5 fun t16=>
ao (some true) (some 7) t16 h fun t17 _=>
ah (some 0) x1 fun t19=>
ao (some false) (some 1) t19 h fun t20 _=>
ah (some 1) x1 fun t22=>
ao (some false) (some 1) t22 h fun t23 _=>
aq Pg pT 47 [t17,t20,t23] h (fun t25 nP=>
n9 W R N E P x1 x4 x5 t25 nP) P
def bj:N4:=fun W R N E P x1 x4 x5 iM h=>
aF iM (
aS W R N E P x1 x4 x5 h) (
E 0 [] h)
def a_:N3:=fun W R N E P x1 x4 x5 h=>
ah (some 2) x1 fun t27=>
ao (some false) (some 1) t27 h fun t28 _=>
(aY t28=false)/\bL t28 fun t30=>
ai Pg .lss 3 false x5 t30 fun t31=>
bj W R N E P x1 x4 x5 t31 h
def cG:GK:=fun W R N E P N' vs h=>a_ W R N' (fun(i:Nat) (vs:List AV) (h:AH)=>if i=0 then n1 W R N E P h else E i vs h) P (vs.getD 0 ab) (vs.getD 1 ab) (vs.getD 2 ab) h
def bH:N3:=fun W R N E P x1 x4 x5 h=>
dK (cG W R N E P) [x1,x4,x5] h
def bP:N2:=fun W R N E P x1 x4 h=>
bH W R N E P x1 x4 (.sc (.int .i64 0)) h
def bV:N1:=fun W R N E P x1 h=>
bP W R N E P x1 (.sc (.int .i64 0)) h
def b5:N2:=fun W R N E P x1 l_ h=>
aF l_ (
R [(.sc (.int .i64 0)),(.sc (.int .i64 115))] h) (
bV W R N E P x1 h)
def ck:N1:=fun W R N E P x1 h=>
ah (some 2) x1 fun t32=>
ao (some false) (some 1) t32 h fun t33 _=>
(aY t33=false)/\bL t33 fun t35=>
ai Pg .gtr 3 true t35 (.sc (.int .i64 4096)) fun t36=>
b5 W R N E P x1 t36 h
def cT:N3:=fun W R N E P x1 nZ EN h=>
aO nZ (.sc (.bool true)) EN fun t37=>
aF t37 (
R [(.sc (.int .i64 0)),(.sc (.int .i64 2))] h) (
ck W R N E P x1 h)
def cL:N3:=fun W R N E P x1 bC fj h=>
aO bC (.sc (.bool true)) fj fun t42=>
bw false t42 (
ah (some 1) x1 fun t38=>
ao (some false) (some 1) t38 h fun t39 _=>
ai Pg .gtr 3 true t39 (.sc (.int .i64 64)) fun t41=>
cT W R N E P x1 t42 t41 h) (
cT W R N E P x1 t42 ab h)
def cF:N3:=fun W R N E P x1 ax bg h=>
aO ax (.sc (.bool true)) bg fun t47=>
bw false t47 (
ah (some 1) x1 fun t43=>
ao (some false) (some 1) t43 h fun t44 _=>
ai Pg .lss 3 true t44 (.sc (.int .i64 0)) fun t46=>
cL W R N E P x1 t47 t46 h) (
cL W R N E P x1 t47 ab h)
def c9:N1:=fun W R N E P x0 h=>
eR 3 25 x0 h fun t56 tT=>
ah (some 0) t56 fun t52=>
ao (some false) (some 1) t52 tT fun t53 _=>
ai Pg .lss 3 true t53 (.sc (.int .i64 0)) fun t55=>
bw false t55 (
ah (some 0) t56 fun t48=>
ao (some false) (some 1) t48 tT fun t49 _=>
ai Pg .gtr 3 true t49 (.sc (.int .i64 64)) fun t51=>
cF W R N E P t56 t55 t51 tT) (
cF W R N E P t56 t55 ab tT)
theorem aM{x0:AV}{h:AH}{M:WK}{R:RK}(hp:c9 (fun id=>M id\/h.next<=id) (aJ Pg [.tmp 2,.tmp 3] R) (aJ Pg [.tmp 2,.tmp 3] R) (fun _ _ _=>False) (fun v h=>R (.bW v) h) x0 h):aA Pg 18 [x0] h M R:=
 fin (n:=61) (pl:=[(1,⟨[(none,(fr 0 4)),(some (3,false),(fr 4 3)),(none,(fr 7 2)),(some (8,false),(fr 9 3)),(none,(fr 12 2)),(some (13,false),(fr 14 3)),(none,(fr 17 1))],false,[],[]⟩),(9,⟨[(none,(fr 0 11))],false,[],[9]⟩)]) (rs:=[.tmp 2,.tmp 3]) (L:=rs) (fun c=>(a1 c9 0 c)) Tryz.mixed Tryz.func18 (fun c=>
(sq (a1 c9 0 c)
(sn
(sn
(sq (a1 bV 1 c)
(sn
(sl (a0 n1 c))
(sq (a2 bP 1 4 c)
(bk 0 (lp [1,4,5] rs [(0,[])] (a3 bH 1 4 5 c) cG (fun i vs h=>if i=0 then n1 c.W c.R c.N c.E c.P h else c.E i vs h) (.b (.t .o)) fun c=>
(sn
(sn
(sm (a3 n2 1 4 5 c))
(bk 1 (sn
(sq (a3 n6 1 4 5 c)
(sq (a3 n5 1 4 5 c)
(cd (a4 n4 1 4 5 59 c) tr tr)))
(sn
(sq (a4 n9 1 4 5 6 c)
(cd (a5 n8 1 4 5 6 47 c) tr tr))
(gr (gl (a3 aS 1 4 5 c)))))))
(sq (a3 a_ 1 4 5 c)
(cd (a4 bj 1 4 5 33 c) tr tr))))))))
(sq (a1 ck 1 c)
(cd (a2 b5 1 28 c) tr tr)))
(sn
(ci tr tr)
(gr (gm (gz (gn (a3 cF 1 10 13 c) (gz (gn (a3 cL 1 15 18 c) (gz (gl (a3 cT 1 20 23 c))))))))))))) hp
attribute [simp] n1 n2 n4 n5 n6 n8 n9 aS bj a_ bP bV b5 ck cT cL cF c9
end ny
namespace eA
abbrev rs:List Nat:=[6]
def n1:N0:=fun _ R _ _ _ h=>
R [(.sc (.int .i64 0))] h
def n2:N3:=fun _ _ N _ _ x3 x8 ax h=>
ai Pg .add 3 true ax (.sc (.int .i64 1)) fun t1=>
N [x3,x8,t1] h
def n3:N4:=fun _ _ N _ _ x3 x8 ax ay h=>
ai Pg .add 3 true ay (.sc (.int .i64 1)) fun t2=>
N [x3,x8,ax,t2] h
def n5:N5:=fun W R N E P x3 x8 ax ay uE h=>
aF uE (
R [(.sc (.int .i64 113))] h) (
n3 W R N E P x3 x8 ax ay h)
def n6:N4:=fun W R N E P x3 x8 ax ay h=>
ah (some 2) x3 fun t3=>
ao (some false) (some 1) t3 h fun t4 _=>
bB (some (1,none)) t4 ax fun t6=>
ao (some false) (some 1) t6 h fun t7 _=>
ah (some 2) x3 fun t9=>
ao (some false) (some 1) t9 h fun t10 _=>
bB (some (1,none)) t10 ay fun t12=>
ao (some false) (some 1) t12 h fun t13 _=>
ai Pg .eql 3 false t7 t13 fun t15=>
n5 W R N E P x3 x8 ax ay t15 h
def n7:N5:=fun W R N E P x3 x8 ax ay sB h=>
aF sB (
n6 W R N E P x3 x8 ax ay h) (
E 4 [x3,x8,ax] h)
def n8:N4:=fun W R N E P x3 x8 ax ay h=>
ai Pg .lss 3 false ay ax fun t16=>
n7 W R N E P x3 x8 ax ay t16 h
def iX:GK:=fun W R N E P N' vs h=>n8 W R N' (fun(i:Nat) (vs:List AV) (h:AH)=>if i=4 then n2 W R N E P (vs.getD 0 ab) (vs.getD 1 ab) (vs.getD 2 ab) h else if i=3 then n2 W R N E P (vs.getD 0 ab) (vs.getD 1 ab) (vs.getD 2 ab) h else E i vs h) P (vs.getD 0 ab) (vs.getD 1 ab) (vs.getD 2 ab) (vs.getD 3 ab) h
def n9:N4:=fun W R N E P x3 x8 ax ay h=>
dK (iX W R N E P) [x3,x8,ax,ay] h
def aS:N3:=fun W R N E P x3 x8 ax h=>
n9 W R N E P x3 x8 ax (.sc (.int .i64 0)) h
def bj:N4:=fun W R N E P x3 x8 ax gP h=>
aF gP (
aS W R N E P x3 x8 ax h) (
E 2 [] h)
def a_:N3:=fun W R N E P x3 x8 ax h=>
ai Pg .lss 3 false ax x8 fun t17=>
bj W R N E P x3 x8 ax t17 h
def cG:GK:=fun W R N E P N' vs h=>a_ W R N' (fun(i:Nat) (vs:List AV) (h:AH)=>if i=2 then n1 W R N E P h else E i vs h) P (vs.getD 0 ab) (vs.getD 1 ab) (vs.getD 2 ab) h
def bH:N3:=fun W R N E P x3 x8 ax h=>
dK (cG W R N E P) [x3,x8,ax] h
def bP:N2:=fun W R N E P x3 x8 h=>
bH W R N E P x3 x8 (.sc (.int .i64 0)) h
def bR:N3:=fun W R N E P x3 x8 qT h=>
aF qT (
R [(.sc (.int .i64 112))] h) (
bP W R N E P x3 x8 h)
def b5:N4:=fun W R N E P x3 x8 y6 A5 h=>
aO y6 A5 (.sc (.bool false)) fun t18=>
bR W R N E P x3 x8 t18 h
def ck:N5:=fun W R N E P x3 x8 y6 w6 A6 h=>
bw true y6 (
aO w6 (.sc (.bool true)) A6 fun t19=>
b5 W R N E P x3 x8 y6 t19 h) (
b5 W R N E P x3 x8 y6 ab h)
def cp:N5:=fun W R N E P x2 x3 x8 y6 w6 h=>
bw false w6 (
ah (some 3) x3 fun t20=>
ao (some false) (some 1) t20 h fun t21 _=>
ai Pg .geq 3 false t21 x2 fun t23=>
ck W R N E P x3 x8 y6 w6 t23 h) (
ck W R N E P x3 x8 y6 w6 ab h)
def cT:N3:=fun W R N E P x2 x3 x8 h=>
ah (some 0) x3 fun t28=>
ao (some false) (some 1) t28 h fun t29 _=>
ai Pg .eql 3 true t29 (.sc (.int .i64 2)) fun t31=>
bw true t31 (
ah (some 3) x3 fun t24=>
ao (some false) (some 1) t24 h fun t25 _=>
ai Pg .lss 3 true t25 (.sc (.int .i64 0)) fun t27=>
cp W R N E P x2 x3 x8 t31 t27 h) (
cp W R N E P x2 x3 x8 t31 ab h)
def cS:N6:=fun _ R N _ _ x1 x2 x3 x8 x9 lL h=>
aF lL (
R [(.sc (.int .i64 112))] h) (
ai Pg .add 3 true x9 (.sc (.int .i64 1)) fun t32=>
N [x1,x2,x3,x8,t32] h)
def cF:N7:=fun W R N E P x1 x2 x3 x8 x9 qU jO h=>
aO qU (.sc (.bool true)) jO fun t33=>
cS W R N E P x1 x2 x3 x8 x9 t33 h
def cC:N6:=fun W R N E P x1 x2 x3 x8 x9 qU h=>
bw false qU (
ah (some 2) x3 fun t34=>
ao (some false) (some 1) t34 h fun t35 _=>
bB (some (1,none)) t35 x9 fun t37=>
ao (some false) (some 1) t37 h fun t38 _=>
ai Pg .geq 3 false t38 x1 fun t40=>
cF W R N E P x1 x2 x3 x8 x9 qU t40 h) (
cF W R N E P x1 x2 x3 x8 x9 qU ab h)
def cB:N5:=fun W R N E P x1 x2 x3 x8 x9 h=>
ah (some 2) x3 fun t41=>
ao (some false) (some 1) t41 h fun t42 _=>
bB (some (1,none)) t42 x9 fun t44=>
ao (some false) (some 1) t44 h fun t45 _=>
ai Pg .lss 3 true t45 (.sc (.int .i64 0)) fun t47=>
cC W R N E P x1 x2 x3 x8 x9 t47 h
def c9:N6:=fun W R N E P x1 x2 x3 x8 x9 iM h=>
aF iM (
cB W R N E P x1 x2 x3 x8 x9 h) (
E 0 [x2,x3,x8] h)
def cU:N5:=fun W R N E P x1 x2 x3 x8 x9 h=>
ai Pg .lss 3 false x9 x8 fun t48=>
c9 W R N E P x1 x2 x3 x8 x9 t48 h
def pL:GK:=fun W R N E P N' vs h=>cU W R N' (fun(i:Nat) (vs:List AV) (h:AH)=>if i=0 then cT W R N E P (vs.getD 0 ab) (vs.getD 1 ab) (vs.getD 2 ab) h else E i vs h) P (vs.getD 0 ab) (vs.getD 1 ab) (vs.getD 2 ab) (vs.getD 3 ab) (vs.getD 4 ab) h
def dn:N5:=fun W R N E P x1 x2 x3 x8 x9 h=>
dK (pL W R N E P) [x1,x2,x3,x8,x9] h
def dS:N4:=fun W R N E P x1 x2 x3 x8 h=>
dn W R N E P x1 x2 x3 x8 (.sc (.int .i64 0)) h
def eC:N5:=fun W R N E P x1 x2 x3 x8 w9 h=>
aF w9 (
R [(.sc (.int .i64 111))] h) (
dS W R N E P x1 x2 x3 x8 h)
def fl:N4:=fun W R N E P x1 x2 x3 x8 h=>
ah (some 2) x3 fun t49=>
ao (some false) (some 1) t49 h fun t50 _=>
(aY t50=false)/\bL t50 fun t52=>
ai Pg .neq 3 false t52 x8 fun t53=>
eC W R N E P x1 x2 x3 x8 t53 h
def fu:N5:=fun W R N E P x1 x2 x3 x8 oR h=>
aF oR (
R [(.sc (.int .i64 80))] h) (
fl W R N E P x1 x2 x3 x8 h)
def fD:N4:=fun W R N E P x1 x2 x3 x8 h=>
ai Pg .eql 3 true x8 (.sc (.int .i64 0)) fun t54=>
fu W R N E P x1 x2 x3 x8 t54 h
def fL:N3:=fun W R N E P x1 x2 x3 h=>
ah (some 1) x3 fun t55=>
ao (some false) (some 1) t55 h fun t56 _=>
aq Pg W 76 [t56] h (fun t58 xY=>
fD W R N E P x1 x2 x3 t58 xY) P
def fk:N5:=fun W R N E P x1 x2 x3 x8 nZ h=>
aF nZ (
fL W R N E P x1 x2 x3 h) (
fl W R N E P x1 x2 x3 x8 h)
def fQ:N4:=fun W R N E P x1 x2 x3 x8 h=>
ah (some 0) x3 fun t60=>
ao (some false) (some 1) t60 h fun t61 _=>
ai Pg .eql 3 true t61 (.sc (.int .i64 1)) fun t63=>
fk W R N E P x1 x2 x3 x8 t63 h
def e_:N3:=fun W R N E P x1 x2 x3 h=>
fQ W R N E P x1 x2 x3 (.sc (.int .i64 1)) h
def fZ:N5:=fun W R N E P x1 x2 x3 x7 du h=>
aF du (
R [x7] h) (
e_ W R N E P x1 x2 x3 h)
def fC:N4:=fun W R N E P x1 x2 x3 x7 h=>
ai Pg .neq 3 true x7 (.sc (.int .i64 0)) fun t64=>
fZ W R N E P x1 x2 x3 x7 t64 h
def jd:N3:=fun W R N E P x1 x2 x3 h=>
ao (some true) (some 7) x3 h fun t65 _=>
aq Pg W 78 [t65,x2] h (fun t67 Gh=>
fC W R N E P x1 x2 x3 t67 Gh) P
def gI:N3:=fun W R N E P x0 x1 x2 h=>
eR 7 36 x0 h fun t69 xX=>
jd W R N E P x1 x2 t69 xX
theorem aM{x0 x1 x2:AV}{h:AH}{M:WK}{R:RK}(hp:gI (fun id=>M id\/h.next<=id) (aJ Pg [.tmp 6] R) (aJ Pg [.tmp 6] R) (fun _ _ _=>False) (fun v h=>R (.bW v) h) x0 x1 x2 h):aA Pg 47 [x0,x1,x2] h M R:=
 fin (n:=86) (pl:=[(14,⟨[(none,(fr 0 7)),(some (6,false),(fr 7 7)),(none,(fr 14 1))],false,[],[]⟩),(16,⟨[(none,(fr 0 4)),(some (3,true),(fr 4 4)),(some (7,false),(fr 8 4)),(some (3,true),(fr 12 1)),(none,(fr 13 1))],false,[],[]⟩),(24,⟨[(none,(fr 0 11))],false,[],[]⟩)]) (rs:=[.tmp 6]) (L:=rs) (fun c=>(a3 gI 0 1 2 c)) Tryz.mixed Tryz.func47 (fun c=>
(sq (a3 gI 0 1 2 c)
(sn
(sq (a3 e_ 1 2 3 c)
(sn
(sn
(sn
(sn
(sn
(sl (a0 n1 c))
(sq (a2 bP 3 8 c)
(bk 2 (lp [3,8,10] rs [(2,[])] (a3 bH 3 8 10 c) cG (fun i vs h=>if i=2 then n1 c.W c.R c.N c.E c.P h else c.E i vs h) (.b (.t .o)) fun c=>
(sn
(sn
(sm (a3 n2 3 8 10 c))
(bk 3 (sq (a3 aS 3 8 10 c)
(bk 4 (lp [3,8,10,11] rs [(4,[3,8,10]),(3,[3,8,10]),(2,[])] (a4 n9 3 8 10 11 c) iX (fun i vs h=>if i=4 then n2 c.W c.R c.N c.E c.P (vs.getD 0 ab) (vs.getD 1 ab) (vs.getD 2 ab) h else if i=3 then n2 c.W c.R c.N c.E c.P (vs.getD 0 ab) (vs.getD 1 ab) (vs.getD 2 ab) h else c.E i vs h) (.b (.b (.t .o))) fun c=>
(sn
(sn
(sm (a4 n3 3 8 10 11 c))
(bk 5 (sq (a4 n6 3 8 10 11 c)
(cd (a5 n5 3 8 10 11 85 c) tr tr))))
(sq (a4 n8 3 8 10 11 c)
(cd (a5 n7 3 8 10 11 72 c) tr tr))))))))
(sq (a3 a_ 3 8 10 c)
(cd (a4 bj 3 8 10 67 c) tr tr)))))))
(sn
(cd (a3 bR 3 8 64 c) tr tr)
(gr (gn (a3 cT 2 3 8 c) (gz (gx (a5 cp 2 3 8 54 58 c) (gx (a5 ck 3 8 54 58 62 c) (gl (a4 b5 3 8 54 63 c)))))))))
(sq (a4 dS 1 2 3 8 c)
(bk 0 (lp [1,2,3,8,9] rs [(0,[2,3,8])] (a5 dn 1 2 3 8 9 c) pL (fun i vs h=>if i=0 then cT c.W c.R c.N c.E c.P (vs.getD 0 ab) (vs.getD 1 ab) (vs.getD 2 ab) h else c.E i vs h) (.b (.t .o)) fun c=>
(sn
(sn
tr
(bk 1 (sn
(cd (a6 cS 1 2 3 8 9 50 c) tr tr)
(gr (gn (a5 cB 1 2 3 8 9 c) (gx (a6 cC 1 2 3 8 9 42 c) (gl (a7 cF 1 2 3 8 9 42 49 c))))))))
(sq (a5 cU 1 2 3 8 9 c)
(cd (a6 c9 1 2 3 8 9 33 c) tr tr)))))))
(sq (a4 fl 1 2 3 8 c)
(cd (a5 eC 1 2 3 8 30 c) tr tr)))
(sq (a4 fQ 1 2 3 8 c)
(cd (a5 fk 1 2 3 8 20 c) (sq (a3 fL 1 2 3 c)
(sq (a4 fD 1 2 3 8 c)
(cd (a5 fu 1 2 3 8 25 c) tr tr))) tr))))
(sq (a3 jd 1 2 3 c)
(sq (a4 fC 1 2 3 7 c)
(cd (a5 fZ 1 2 3 7 16 c) tr tr)))))) hp
attribute [simp] n1 n2 n3 n5 n6 n7 n8 aS bj a_ bP bR b5 ck cp cT cS cF cC cB c9 cU dS eC fl fu fD fL fk fQ e_ fZ fC jd gI
end eA
namespace IC
abbrev rs:List Nat:=[2]
def n2:N1:=fun W R _ _ P x1 h=>
ah (some 1) x1 fun t1=>
ao (some false) (some 1) t1 h fun t2 _=>
aq Pg W 79 [t2] h (fun t4 h5=>
R [t4] h5) P
def n3:N2:=fun W R N E P x1 x5 h=>
aF x5 (
n2 W R N E P x1 h) (
R [(.sc (.int .i64 0))] h)
def n4:N1:=fun W R N E P x1 h=>
ah (some 0) x1 fun t6=>
ao (some false) (some 1) t6 h fun t7 _=>
ai Pg .eql 3 true t7 (.sc (.int .i64 1)) fun t9=>
n3 W R N E P x1 t9 h
def n5:N1:=fun W R N E P x0 h=>
eR 7 36 x0 h fun t10 mO=>
n4 W R N E P t10 mO
theorem aM{x0:AV}{h:AH}{M:WK}{R:RK}(hp:n5 (fun id=>M id\/h.next<=id) (aJ Pg [.tmp 2] R) (aJ Pg [.tmp 2] R) (fun _ _ _=>False) (fun v h=>R (.bW v) h) x0 h):aA Pg 48 [x0] h M R:=
 fin (n:=9) (pl:=[]) (rs:=[.tmp 2]) (L:=rs) (fun c=>(a1 n5 0 c)) Tryz.mixed Tryz.func48 (fun c=>
(sq (a1 n5 0 c)
(sn
tr
(sq (a1 n4 1 c)
(cd (a2 n3 1 5 c) (sl (a1 n2 1 c)) tr))))) hp
attribute [simp] n2 n3 n4 n5
end IC
namespace YE
abbrev rs:List Nat:=[2]
def n5:N1:=fun _ R _ _ _ l_ h=>
aF l_ (
R [(.sc (.int .i64 3))] h) (
R [(.sc (.int .i64 0))] h)
def aS:N2:=fun W R N E P x3 fj h=>
aF fj (
R [(.sc (.int .i64 2))] h) (
ai Pg .eql 9 true x3 (.sc (.string ⟨#[99,99,120]⟩)) fun t3=>
aF t3 (
n5 W R N E P t3 h) (
ai Pg .eql 9 true x3 (.sc (.string ⟨#[99,99,122]⟩)) fun t2=>
aF t2 (
n5 W R N E P t2 h) (
ai Pg .eql 9 true x3 (.sc (.string ⟨#[99,115,119,97,112]⟩)) fun t1=>
n5 W R N E P t1 h)))
def cB:N2:=fun W R N E P x3 x4 h=>
aF x4 (
R [(.sc (.int .i64 1))] h) (
ai Pg .eql 9 true x3 (.sc (.string ⟨#[99,120]⟩)) fun t12=>
aF t12 (
aS W R N E P x3 t12 h) (
ai Pg .eql 9 true x3 (.sc (.string ⟨#[99,121]⟩)) fun t11=>
aF t11 (
aS W R N E P x3 t11 h) (
ai Pg .eql 9 true x3 (.sc (.string ⟨#[99,122]⟩)) fun t10=>
aF t10 (
aS W R N E P x3 t10 h) (
ai Pg .eql 9 true x3 (.sc (.string ⟨#[99,104]⟩)) fun t9=>
aF t9 (
aS W R N E P x3 t9 h) (
ai Pg .eql 9 true x3 (.sc (.string ⟨#[99,115]⟩)) fun t8=>
aF t8 (
aS W R N E P x3 t8 h) (
ai Pg .eql 9 true x3 (.sc (.string ⟨#[99,115,100,103]⟩)) fun t7=>
aF t7 (
aS W R N E P x3 t7 h) (
ai Pg .eql 9 true x3 (.sc (.string ⟨#[115,119,97,112]⟩)) fun t6=>
aF t6 (
aS W R N E P x3 t6 h) (
ai Pg .eql 9 true x3 (.sc (.string ⟨#[105,115,119,97,112]⟩)) fun t5=>
aF t5 (
aS W R N E P x3 t5 h) (
ai Pg .eql 9 true x3 (.sc (.string ⟨#[105,115,119,97,112,100,103]⟩)) fun t4=>
aS W R N E P x3 t4 h)))))))))
def jW:N1:=fun W R N E P x0 h=>
ai Pg .eql 9 true x0 (.sc (.string ⟨#[105]⟩)) fun t25=>
aF t25 (
cB W R N E P x0 t25 h) (
ai Pg .eql 9 true x0 (.sc (.string ⟨#[120]⟩)) fun t24=>
aF t24 (
cB W R N E P x0 t24 h) (
ai Pg .eql 9 true x0 (.sc (.string ⟨#[121]⟩)) fun t23=>
aF t23 (
cB W R N E P x0 t23 h) (
ai Pg .eql 9 true x0 (.sc (.string ⟨#[122]⟩)) fun t22=>
aF t22 (
cB W R N E P x0 t22 h) (
ai Pg .eql 9 true x0 (.sc (.string ⟨#[104]⟩)) fun t21=>
aF t21 (
cB W R N E P x0 t21 h) (
ai Pg .eql 9 true x0 (.sc (.string ⟨#[115]⟩)) fun t20=>
aF t20 (
cB W R N E P x0 t20 h) (
ai Pg .eql 9 true x0 (.sc (.string ⟨#[115,100,103]⟩)) fun t19=>
aF t19 (
cB W R N E P x0 t19 h) (
ai Pg .eql 9 true x0 (.sc (.string ⟨#[116]⟩)) fun t18=>
aF t18 (
cB W R N E P x0 t18 h) (
ai Pg .eql 9 true x0 (.sc (.string ⟨#[116,100,103]⟩)) fun t17=>
aF t17 (
cB W R N E P x0 t17 h) (
ai Pg .eql 9 true x0 (.sc (.string ⟨#[118]⟩)) fun t16=>
aF t16 (
cB W R N E P x0 t16 h) (
ai Pg .eql 9 true x0 (.sc (.string ⟨#[118,100,103]⟩)) fun t15=>
aF t15 (
cB W R N E P x0 t15 h) (
ai Pg .eql 9 true x0 (.sc (.string ⟨#[119]⟩)) fun t14=>
aF t14 (
cB W R N E P x0 t14 h) (
ai Pg .eql 9 true x0 (.sc (.string ⟨#[119,100,103]⟩)) fun t13=>
cB W R N E P x0 t13 h))))))))))))
theorem aM{x0:AV}{h:AH}{M:WK}{R:RK}(hp:jW (fun id=>M id\/h.next<=id) (aJ Pg [.tmp 2] R) (aJ Pg [.tmp 2] R) (fun _ _ _=>False) (fun v h=>R (.bW v) h) x0 h):aA Pg 76 [x0] h M R:=
 fin (n:=32) (pl:=[]) (rs:=[.tmp 2]) (L:=rs) (fun c=>(a1 jW 0 c)) Tryz.mixed Tryz.func76 (fun c=>
(sq (a1 jW 0 c)
(sn
tr
(si (bk 0 (sn
(cd (a2 cB 3 4 c) tr (sn
(cd (a2 aS 3 18 c) tr (sn
(cd (a1 n5 28 c) tr tr)
(si (ci tr (si (ci tr tr))))))
(si (ci tr (si (ci tr (si (ci tr (si (ci tr (si (ci tr (si (ci tr (si (ci tr (si (ci tr tr))))))))))))))))))
(si (ci tr (si (ci tr (si (ci tr (si (ci tr (si (ci tr (si (ci tr (si (ci tr (si (ci tr (si (ci tr (si (ci tr (si (ci tr (si (ci tr tr)))))))))))))))))))))))))))))) hp
attribute [simp] n5 aS cB jW
end YE
namespace mr
abbrev rs:List Nat:=[4]
def n3:N1:=fun _ R _ _ _ qT h=>
aF qT (
R [(.sc (.int .i64 120))] h) (
R [(.sc (.int .i64 0))] h)
def n4:N2:=fun W R N E P jN A5 h=>
aO jN (.sc (.bool true)) A5 fun t1=>
n3 W R N E P t1 h
def n5:N3:=fun W R N E P jN wZ A6 h=>
bw false jN (
aO wZ A6 (.sc (.bool false)) fun t2=>
n4 W R N E P jN t2 h) (
n4 W R N E P jN ab h)
def n6:N3:=fun W R N E P x2 jN wZ h=>
bw true wZ (
ah (some 3) x2 fun t3=>
ao (some false) (some 1) t3 h fun t4 _=>
ai Pg .neq 3 true t4 (.sc (.int .i64 0)) fun t6=>
n5 W R N E P jN wZ t6 h) (
n5 W R N E P jN wZ ab h)
def n8:N3:=fun W R N E P x2 lL A8 h=>
aO lL A8 (.sc (.bool false)) fun t11=>
bw false t11 (
ah (some 0) x2 fun t7=>
ao (some false) (some 1) t7 h fun t8 _=>
ai Pg .neq 3 true t8 (.sc (.int .i64 2)) fun t10=>
n6 W R N E P x2 t11 t10 h) (
n6 W R N E P x2 t11 ab h)
def aS:N1:=fun W R N E P x2 h=>
ah (some 0) x2 fun t16=>
ao (some false) (some 1) t16 h fun t17 _=>
ai Pg .neq 3 true t17 (.sc (.int .i64 1)) fun t19=>
bw true t19 (
ah (some 1) x2 fun t12=>
ao (some false) (some 1) t12 h fun t13 _=>
ai Pg .neq 9 true t13 (.sc (.string ⟨#[]⟩)) fun t15=>
n8 W R N E P x2 t19 t15 h) (
n8 W R N E P x2 t19 ab h)
def a_:N2:=fun W R N E P x2 JW h=>
aF JW (
R [(.sc (.int .i64 120))] h) (
aS W R N E P x2 h)
def bH:N3:=fun W R N E P x2 l_ iR h=>
aO l_ iR (.sc (.bool false)) fun t20=>
a_ W R N E P x2 t20 h
def bP:N4:=fun W R N E P x2 l_ w8 gZ h=>
bw true l_ (
aO w8 (.sc (.bool true)) gZ fun t21=>
bH W R N E P x2 l_ t21 h) (
bH W R N E P x2 l_ ab h)
def bV:N3:=fun W R N E P x2 l_ w8 h=>
bw false w8 (
ah (some 6) x2 fun t22=>
ao (some false) (some 1) t22 h fun t23 _=>
ah (some 5) x2 fun t25=>
ao (some false) (some 1) t25 h fun t26 _=>
ai Pg .andNot 34 false t23 t26 fun t28=>
ai Pg .neq 34 true t28 (.sc (.int .u64 0)) fun t29=>
bP W R N E P x2 l_ w8 t29 h) (
bP W R N E P x2 l_ w8 ab h)
def bR:N4:=fun W R N E P x2 l_ jy lb h=>
bw true l_ (
aO jy (.sc (.bool true)) lb fun t30=>
bV W R N E P x2 l_ t30 h) (
bV W R N E P x2 l_ ab h)
def b5:N4:=fun W R N E P x1 x2 l_ jy h=>
bw false jy (
ah (some 5) x2 fun t31=>
ao (some false) (some 1) t31 h fun t32 _=>
aq Pg W 96 [t32,x1] h (fun t34 kK=>
bR W R N E P x2 l_ jy t34 kK) P) (
bR W R N E P x2 l_ jy ab h)
def cw:N4:=fun W R N E P x1 x2 du kl h=>
aO du kl (.sc (.bool false)) fun t43=>
aF t43 (
R [(.sc (.int .i64 120))] h) (
ah (some 4) x2 fun t40=>
ao (some false) (some 1) t40 h fun t41 _=>
bw true t41 (
ah (some 5) x2 fun t36=>
ao (some false) (some 1) t36 h fun t37 _=>
ai Pg .eql 34 true t37 (.sc (.int .u64 0)) fun t39=>
b5 W R N E P x1 x2 t41 t39 h) (
b5 W R N E P x1 x2 t41 ab h))
def cL:N5:=fun W R N E P x1 x2 du nZ EN h=>
bw true du (
aO nZ (.sc (.bool true)) EN fun t44=>
cw W R N E P x1 x2 du t44 h) (
cw W R N E P x1 x2 du ab h)
def cS:N4:=fun W R N E P x1 x2 du nZ h=>
bw false nZ (
ah (some 6) x2 fun t45=>
ao (some false) (some 1) t45 h fun t46 _=>
ai Pg .neq 34 true t46 (.sc (.int .u64 0)) fun t48=>
cL W R N E P x1 x2 du nZ t48 h) (
cL W R N E P x1 x2 du nZ ab h)
def cC:N2:=fun W R N E P x1 x2 h=>
ah (some 4) x2 fun t53=>
ao (some false) (some 1) t53 h fun t54 _=>
iH .not t54 fun t56=>
bw true t56 (
ah (some 5) x2 fun t49=>
ao (some false) (some 1) t49 h fun t50 _=>
ai Pg .neq 34 true t50 (.sc (.int .u64 0)) fun t52=>
cS W R N E P x1 x2 t56 t52 h) (
cS W R N E P x1 x2 t56 ab h)
def cU:N4:=fun W R N E P x1 x2 x8 ay h=>
aO x8 (.sc (.bool true)) ay fun t57=>
aF t57 (
R [(.sc (.int .i64 120))] h) (
cC W R N E P x1 x2 h)
def dZ:N2:=fun W R N E P x0 x1 h=>
eR 7 36 x0 h fun t66 D4=>
ah (some 0) t66 fun t62=>
ao (some false) (some 1) t62 D4 fun t63 _=>
ai Pg .lss 3 true t63 (.sc (.int .i64 1)) fun t65=>
bw false t65 (
ah (some 0) t66 fun t58=>
ao (some false) (some 1) t58 D4 fun t59 _=>
ai Pg .gtr 3 true t59 (.sc (.int .i64 3)) fun t61=>
cU W R N E P x1 t66 t65 t61 D4) (
cU W R N E P x1 t66 t65 ab D4)
theorem aM{x0 x1:AV}{h:AH}{M:WK}{R:RK}(hp:dZ (fun id=>M id\/h.next<=id) (aJ Pg [.tmp 4] R) (aJ Pg [.tmp 4] R) (fun _ _ _=>False) (fun v h=>R (.bW v) h) x0 x1 h):aA Pg 78 [x0,x1] h M R:=
 fin (n:=65) (pl:=[(1,⟨[(none,(fr 0 4)),(some (3,false),(fr 4 3)),(none,(fr 7 1))],false,[],[]⟩),(3,⟨[(none,(fr 0 4)),(some (3,true),(fr 4 4)),(some (7,false),(fr 8 3)),(some (3,true),(fr 11 1)),(none,(fr 12 1))],false,[],[]⟩),(5,⟨[(none,(fr 0 3)),(some (2,true),(fr 3 4)),(some (6,false),(fr 7 4)),(some (2,true),(fr 11 2)),(some (12,false),(fr 13 6)),(some (2,true),(fr 19 1)),(none,(fr 20 1))],false,[],[]⟩),(7,⟨[(none,(fr 0 4)),(some (3,true),(fr 4 3)),(none,(fr 7 2)),(some (8,false),(fr 9 4)),(some (12,true),(fr 13 3)),(some (8,false),(fr 16 1)),(none,(fr 17 1))],false,[],[]⟩)]) (rs:=[.tmp 4]) (L:=rs) (fun c=>(a2 dZ 0 1 c)) Tryz.mixed Tryz.func78 (fun c=>
(sq (a2 dZ 0 1 c)
(sn
(sn
(sn
(sn
tr
(sn
(cd (a1 n3 64 c) tr tr)
(gr (gn (a1 aS 2 c) (gz (gn (a3 n8 2 50 53 c) (gz (gx (a3 n6 2 55 59 c) (gx (a3 n5 55 59 62 c) (gl (a2 n4 55 63 c)))))))))))
(sn
(cd (a2 a_ 2 46 c) tr tr)
(gr (gm (gz (gx (a4 b5 1 2 28 32 c) (gx (a4 bR 2 28 32 36 c) (gx (a3 bV 2 28 38 c) (gx (a4 bP 2 28 38 44 c) (gl (a3 bH 2 28 45 c)))))))))))
(sn
(ci tr tr)
(gr (gn (a2 cC 1 2 c) (gz (gx (a4 cS 1 2 16 20 c) (gx (a5 cL 1 2 16 20 23 c) (gl (a4 cw 1 2 16 24 c)))))))))
(sn
(ci tr tr)
(gr (gm (gz (gl (a4 cU 1 2 8 11 c))))))))) hp
attribute [simp] n3 n4 n5 n6 n8 aS a_ bH bP bV bR b5 cw cL cS cC cU dZ
end mr
namespace YD
abbrev rs:List Nat:=[2]
def n3:N1:=fun _ R _ _ _ x4 h=>
aF x4 (
R [(.sc (.int .i64 1))] h) (
R [(.sc (.int .i64 0))] h)
def bj:N1:=fun W R N E P x0 h=>
ai Pg .eql 9 true x0 (.sc (.string ⟨#[104]⟩)) fun t4=>
aF t4 (
n3 W R N E P t4 h) (
ai Pg .eql 9 true x0 (.sc (.string ⟨#[118]⟩)) fun t3=>
aF t3 (
n3 W R N E P t3 h) (
ai Pg .eql 9 true x0 (.sc (.string ⟨#[118,100,103]⟩)) fun t2=>
aF t2 (
n3 W R N E P t2 h) (
ai Pg .eql 9 true x0 (.sc (.string ⟨#[99,104]⟩)) fun t1=>
n3 W R N E P t1 h)))
theorem aM{x0:AV}{h:AH}{M:WK}{R:RK}(hp:bj (fun id=>M id\/h.next<=id) (aJ Pg [.tmp 2] R) (aJ Pg [.tmp 2] R) (fun _ _ _=>False) (fun v h=>R (.bW v) h) x0 h):aA Pg 79 [x0] h M R:=
 fin (n:=9) (pl:=[]) (rs:=[.tmp 2]) (L:=rs) (fun c=>(a1 bj 0 c)) Tryz.mixed Tryz.func79 (fun c=>
(sq (a1 bj 0 c)
(sn
tr
(si (bk 0 (sn
(cd (a1 n3 4 c) tr tr)
(si (ci tr (si (ci tr (si (ci tr tr)))))))))))) hp
attribute [simp] n3 bj
end YD
namespace Yz
abbrev rs:List Nat:=[4]
def n2:N2:=fun _ R _ _ _ x7 aG h=>
aO x7 aG (.sc (.bool false)) fun t1=>
R [t1] h
def n5:N2:=fun W R N E P x0 x1 h=>
ai Pg .lss 3 true x1 (.sc (.int .i64 64)) fun t5=>
bw true t5 (
ql (some .u64) x1 fun t2=>
ai Pg .shr 34 false x0 t2 fun t3=>
ai Pg .neq 34 true t3 (.sc (.int .u64 0)) fun t4=>
n2 W R N E P t5 t4 h) (
n2 W R N E P t5 ab h)
theorem aM{x0 x1:AV}{h:AH}{M:WK}{R:RK}(hp:n5 (fun id=>M id\/h.next<=id) (aJ Pg [.tmp 4] R) (aJ Pg [.tmp 4] R) (fun _ _ _=>False) (fun v h=>R (.bW v) h) x0 x1 h):aA Pg 96 [x0,x1] h M R:=
 fin (n:=14) (pl:=[(1,⟨[(none,(fr 0 3)),(some (2,true),(fr 3 5)),(none,(fr 8 2))],false,[],[]⟩)]) (rs:=[.tmp 4]) (L:=rs) (fun c=>(a2 n5 0 1 c)) Tryz.mixed Tryz.func96 (fun c=>
(sq (a2 n5 0 1 c)
(sn
tr
(gr (gm (gz (gl (a2 n2 7 12 c)))))))) hp
attribute [simp] n2 n5
end Yz
namespace F7
abbrev rs:List Nat:=[4]
def n1:N0:=fun _ R _ _ _ h=>
R [(.sc (.bool true))] h
def n2:N3:=fun _ _ N _ _ x2 x3 x5 h=>
ai Pg .add 3 true x5 (.sc (.int .i64 1)) fun t1=>
N [x2,x3,t1] h
def n4:N4:=fun W R N E P x2 x3 x5 Tb h=>
aF Tb (
R [(.sc (.bool false))] h) (
n2 W R N E P x2 x3 x5 h)
def n5:N5:=fun W R N E P x2 x3 x5 A3 JU h=>
aO A3 (.sc (.bool true)) JU fun t2=>
n4 W R N E P x2 x3 x5 t2 h
def n6:N6:=fun W R N E P x2 x3 x5 x6 x7 A3 h=>
bw false A3 (
ah (some 6) x6 fun t3=>
ao (some false) (some 1) t3 h fun t4 _=>
ah (some 6) x7 fun t6=>
ao (some false) (some 1) t6 h fun t7 _=>
ai Pg .neq 34 false t4 t7 fun t9=>
n5 W R N E P x2 x3 x5 A3 t9 h) (
n5 W R N E P x2 x3 x5 A3 ab h)
def n7:N7:=fun W R N E P x2 x3 x5 x6 x7 nH uE h=>
aO nH (.sc (.bool true)) uE fun t10=>
n6 W R N E P x2 x3 x5 x6 x7 t10 h
def n8:N6:=fun W R N E P x2 x3 x5 x6 x7 nH h=>
bw false nH (
ah (some 5) x6 fun t11=>
ao (some false) (some 1) t11 h fun t12 _=>
ah (some 5) x7 fun t14=>
ao (some false) (some 1) t14 h fun t15 _=>
ai Pg .neq 34 false t12 t15 fun t17=>
n7 W R N E P x2 x3 x5 x6 x7 nH t17 h) (
n7 W R N E P x2 x3 x5 x6 x7 nH ab h)
def n9:N7:=fun W R N E P x2 x3 x5 x6 x7 wY sA h=>
aO wY (.sc (.bool true)) sA fun t18=>
n8 W R N E P x2 x3 x5 x6 x7 t18 h
def aS:N6:=fun W R N E P x2 x3 x5 x6 x7 wY h=>
bw false wY (
ah (some 4) x6 fun t19=>
ao (some false) (some 1) t19 h fun t20 _=>
ah (some 4) x7 fun t22=>
ao (some false) (some 1) t22 h fun t23 _=>
ai Pg .neq 4 false t20 t23 fun t25=>
n9 W R N E P x2 x3 x5 x6 x7 wY t25 h) (
n9 W R N E P x2 x3 x5 x6 x7 wY ab h)
def bj:N7:=fun W R N E P x2 x3 x5 x6 x7 A4 EI h=>
aO A4 (.sc (.bool true)) EI fun t26=>
aS W R N E P x2 x3 x5 x6 x7 t26 h
def a_:N6:=fun W R N E P x2 x3 x5 x6 x7 A4 h=>
bw false A4 (
ah (some 3) x6 fun t27=>
ao (some false) (some 1) t27 h fun t28 _=>
ah (some 3) x7 fun t30=>
ao (some false) (some 1) t30 h fun t31 _=>
ai Pg .neq 3 false t28 t31 fun t33=>
bj W R N E P x2 x3 x5 x6 x7 A4 t33 h) (
bj W R N E P x2 x3 x5 x6 x7 A4 ab h)
def bH:N7:=fun W R N E P x2 x3 x5 x6 x7 w6 qT h=>
aO w6 (.sc (.bool true)) qT fun t34=>
a_ W R N E P x2 x3 x5 x6 x7 t34 h
def bP:N6:=fun W R N E P x2 x3 x5 x6 x7 w6 h=>
bw false w6 (
ah (some 2) x6 fun t35=>
ao (some false) (some 1) t35 h fun t36 _=>
ah (some 2) x7 fun t38=>
ao (some false) (some 1) t38 h fun t39 _=>
aq Pg W 12 [t36,t39] h (fun t41 zw=>
iH .not t41 fun t43=>
bH W R N E P x2 x3 x5 x6 x7 w6 t43 zw) P) (
bH W R N E P x2 x3 x5 x6 x7 w6 ab h)
def bV:N7:=fun W R N E P x2 x3 x5 x6 x7 pi EL h=>
aO pi (.sc (.bool true)) EL fun t44=>
bP W R N E P x2 x3 x5 x6 x7 t44 h
def bR:N6:=fun W R N E P x2 x3 x5 x6 x7 pi h=>
bw false pi (
ah (some 1) x6 fun t45=>
ao (some false) (some 1) t45 h fun t46 _=>
ah (some 1) x7 fun t48=>
ao (some false) (some 1) t48 h fun t49 _=>
ai Pg .neq 9 false t46 t49 fun t51=>
bV W R N E P x2 x3 x5 x6 x7 pi t51 h) (
bV W R N E P x2 x3 x5 x6 x7 pi ab h)
def b5:N5:=fun W R N E P x2 x3 x5 x6 x7 h=>
ah (some 0) x6 fun t52=>
ao (some false) (some 1) t52 h fun t53 _=>
ah (some 0) x7 fun t55=>
ao (some false) (some 1) t55 h fun t56 _=>
ai Pg .neq 3 false t53 t56 fun t58=>
bR W R N E P x2 x3 x5 x6 x7 t58 h
def ck:N3:=fun W R N E P x2 x3 x5 h=>
∃Hd:Nat->Nat,(∀i∈[6,9],h.obj (Hd i)≠none)/\(
ah (some 2) x2 fun t59=>
ao (some false) (some 1) t59 h fun t60 _=>
bB (some (7,none)) t60 x5 fun t62=>
ao (some true) (some 7) t62 h fun t63 _=>
ah (some 2) x3 fun t65=>
ao (some false) (some 1) t65 h fun t66 i67=>
(i67=Hd 6)/\(
bB (some (7,none)) t66 x5 fun t68=>
ao (some true) (some 7) t68 h fun t69 i70=>
(i70=Hd 9)/\(
(
bx (some [.int .i64 0,.string ⟨#[]⟩,.slice none 0 0,.int .i64 0,.bool false,.int .u64 0,.int .u64 0]) 7 36 h fun t71 Gf=>
bx (some [.int .i64 0,.string ⟨#[]⟩,.slice none 0 0,.int .i64 0,.bool false,.int .u64 0,.int .u64 0]) 7 36 Gf fun t73 Cc=>
aD (some 7) t71 t63 Cc (iZ W Hd [6,9]) fun LH=>
aD (some 7) t73 t69 LH W fun Ge=>
b5 W R N E P x2 x3 x5 t71 t73 Ge)/\(
bx (some [.int .i64 0,.string ⟨#[]⟩,.slice none 0 0,.int .i64 0,.bool false,.int .u64 0,.int .u64 0]) 7 36 h fun t77 Cb=>
bx (some [.int .i64 0,.string ⟨#[]⟩,.slice none 0 0,.int .i64 0,.bool false,.int .u64 0,.int .u64 0]) 7 36 Cb fun t79 xW=>
aD (some 7) t79 t63 xW (iZ W Hd [6,9]) fun Gd=>
aD (some 7) t77 t69 Gd W fun xV=>
b5 W R N E P x2 x3 x5 t79 t77 xV)/\True)))
def cp:N4:=fun W R N E P x2 x3 x5 iM h=>
aF iM (
ck W R N E P x2 x3 x5 h) (
E 0 [] h)
def cP:N3:=fun W R N E P x2 x3 x5 h=>
ah (some 2) x2 fun t83=>
ao (some false) (some 1) t83 h fun t84 _=>
(aY t84=false)/\bL t84 fun t86=>
ai Pg .lss 3 false x5 t86 fun t87=>
cp W R N E P x2 x3 x5 t87 h
def cG:GK:=fun W R N E P N' vs h=>cP W R N' (fun(i:Nat) (vs:List AV) (h:AH)=>if i=0 then n1 W R N E P h else E i vs h) P (vs.getD 0 ab) (vs.getD 1 ab) (vs.getD 2 ab) h
def cT:N3:=fun W R N E P x2 x3 x5 h=>
dK (cG W R N E P) [x2,x3,x5] h
def cw:N2:=fun W R N E P x2 x3 h=>
cT W R N E P x2 x3 (.sc (.int .i64 0)) h
def cS:N3:=fun W R N E P x2 x3 l_ h=>
aF l_ (
R [(.sc (.bool false))] h) (
cw W R N E P x2 x3 h)
def cF:N4:=fun W R N E P x2 x3 nZ w_ h=>
aO nZ (.sc (.bool true)) w_ fun t88=>
cS W R N E P x2 x3 t88 h
def cC:N3:=fun W R N E P x2 x3 nZ h=>
bw false nZ (
ah (some 2) x2 fun t89=>
ao (some false) (some 1) t89 h fun t90 _=>
(aY t90=false)/\bL t90 fun t92=>
ah (some 2) x3 fun t93=>
ao (some false) (some 1) t93 h fun t94 _=>
(aY t94=false)/\bL t94 fun t96=>
ai Pg .neq 3 false t92 t96 fun t97=>
cF W R N E P x2 x3 nZ t97 h) (
cF W R N E P x2 x3 nZ ab h)
def cB:N4:=fun W R N E P x2 x3 bg fj h=>
aO bg (.sc (.bool true)) fj fun t98=>
cC W R N E P x2 x3 t98 h
def c9:N3:=fun W R N E P x2 x3 bg h=>
bw false bg (
ah (some 1) x2 fun t99=>
ao (some false) (some 1) t99 h fun t100 _=>
ah (some 1) x3 fun t102=>
ao (some false) (some 1) t102 h fun t103 _=>
ai Pg .neq 3 false t100 t103 fun t105=>
cB W R N E P x2 x3 bg t105 h) (
cB W R N E P x2 x3 bg ab h)
def cU:N2:=fun W R N E P x2 x3 h=>
ah (some 0) x2 fun t106=>
ao (some false) (some 1) t106 h fun t107 _=>
ah (some 0) x3 fun t109=>
ao (some false) (some 1) t109 h fun t110 _=>
ai Pg .neq 3 false t107 t110 fun t112=>
c9 W R N E P x2 x3 t112 h
def dn:N2:=fun W R N E P x0 x1 h=>
eR 3 25 x0 h fun t113 Gq=>
eR 3 25 x1 Gq fun t115 Od=>
cU W R N E P t113 t115 Od
theorem aM{x0 x1:AV}{h:AH}{M:WK}{R:RK}(hp:dn (fun id=>M id\/h.next<=id) (aJ Pg [.tmp 4] R) (aJ Pg [.tmp 4] R) (fun _ _ _=>False) (fun v h=>R (.bW v) h) x0 x1 h):aA Pg 7 [x0,x1] h M R:=
 fin (n:=94) (pl:=[(1,⟨[(none,(fr 0 6)),(some (5,false),(fr 6 5)),(none,(fr 11 2)),(some (12,false),(fr 13 7)),(none,(fr 20 1))],false,[],[]⟩),(6,⟨[(none,[(0,false),(1,false),(2,false),(3,false),(4,false),(5,false),(6,true),(7,false),(8,false),(9,true)])],true,[.mk (fr 10 4) [],.mk [(11,false),(10,false),(12,false),(13,false)] []],[]⟩),(7,⟨[(none,(fr 0 6)),(some (5,false),(fr 6 5)),(none,(fr 11 2)),(some (12,false),(fr 13 6)),(none,(fr 19 2)),(some (20,false),(fr 21 5)),(none,(fr 26 2)),(some (27,false),(fr 28 5)),(none,(fr 33 2)),(some (34,false),(fr 35 5)),(none,(fr 40 2)),(some (41,false),(fr 42 5)),(none,(fr 47 1))],false,[],[]⟩)]) (rs:=[.tmp 4]) (L:=rs) (fun c=>(a2 dn 0 1 c)) Tryz.mixed Tryz.func7 (fun c=>
(sq (a2 dn 0 1 c)
(sn
(sn
(sl (a0 n1 c))
(sq (a2 cw 2 3 c)
(bk 0 (lp [2,3,5] rs [(0,[])] (a3 cT 2 3 5 c) cG (fun i vs h=>if i=0 then n1 c.W c.R c.N c.E c.P h else c.E i vs h) (.b (.t .o)) fun c=>
(sn
(sn
(sm (a3 n2 2 3 5 c))
(bk 1 (sn
(sn
(cd (a4 n4 2 3 5 93 c) tr tr)
(gr (gn (a5 b5 2 3 5 6 7 c) (gx (a6 bR 2 3 5 6 7 51 c) (gn (a7 bV 2 3 5 6 7 51 56 c) (gx (a6 bP 2 3 5 6 7 58 c) (gn (a7 bH 2 3 5 6 7 58 64 c) (gx (a6 a_ 2 3 5 6 7 66 c) (gn (a7 bj 2 3 5 6 7 66 71 c) (gx (a6 aS 2 3 5 6 7 73 c) (gn (a7 n9 2 3 5 6 7 73 78 c) (gx (a6 n8 2 3 5 6 7 80 c) (gn (a7 n7 2 3 5 6 7 80 85 c) (gx (a6 n6 2 3 5 6 7 87 c) (gl (a5 n5 2 3 5 87 92 c))))))))))))))))
(sm (a3 ck 2 3 5 c)))))
(sq (a3 cP 2 3 5 c)
(cd (a4 cp 2 3 5 33 c) tr tr)))))))
(sn
(cd (a3 cS 2 3 28 c) tr tr)
(gr (gn (a2 cU 2 3 c) (gx (a3 c9 2 3 13 c) (gn (a4 cB 2 3 13 18 c) (gx (a3 cC 2 3 20 c) (gl (a4 cF 2 3 20 27 c))))))))))) hp
attribute [simp] n1 n2 n4 n5 n6 n7 n8 n9 aS bj a_ bH bP bV bR b5 ck cp cP cw cS cF cC cB c9 cU dn
end F7
namespace tz
abbrev rs:List Nat:=[4]
def n1:N0:=fun _ R _ _ _ h=>
R [(.sc (.bool true))] h
def n2:N3:=fun _ _ N _ _ x0 x1 x5 h=>
ai Pg .add 3 true x5 (.sc (.int .i64 1)) fun t1=>
N [x0,x1,t1] h
def n4:N4:=fun W R N E P x0 x1 x5 oR h=>
aF oR (
R [(.sc (.bool false))] h) (
n2 W R N E P x0 x1 x5 h)
def n5:N3:=fun W R N E P x0 x1 x5 h=>
bB (some (1,none)) x0 x5 fun t2=>
ao (some false) (some 1) t2 h fun t3 _=>
bB (some (1,none)) x1 x5 fun t5=>
ao (some false) (some 1) t5 h fun t6 _=>
ai Pg .neq 3 false t3 t6 fun t8=>
n4 W R N E P x0 x1 x5 t8 h
def n6:N4:=fun W R N E P x0 x1 x5 aX h=>
aF aX (
n5 W R N E P x0 x1 x5 h) (
E 0 [] h)
def n7:N3:=fun W R N E P x0 x1 x5 h=>
(aY x0=false)/\bL x0 fun t9=>
ai Pg .lss 3 false x5 t9 fun t10=>
n6 W R N E P x0 x1 x5 t10 h
def cG:GK:=fun W R N E P N' vs h=>n7 W R N' (fun(i:Nat) (vs:List AV) (h:AH)=>if i=0 then n1 W R N E P h else E i vs h) P (vs.getD 0 ab) (vs.getD 1 ab) (vs.getD 2 ab) h
def n8:N3:=fun W R N E P x0 x1 x5 h=>
dK (cG W R N E P) [x0,x1,x5] h
def n9:N2:=fun W R N E P x0 x1 h=>
n8 W R N E P x0 x1 (.sc (.int .i64 0)) h
def bj:N3:=fun W R N E P x0 x1 ax h=>
aF ax (
R [(.sc (.bool false))] h) (
n9 W R N E P x0 x1 h)
def a_:N2:=fun W R N E P x0 x1 h=>
(aY x0=false)/\bL x0 fun t11=>
(aY x1=false)/\bL x1 fun t12=>
ai Pg .neq 3 false t11 t12 fun t13=>
bj W R N E P x0 x1 t13 h
def bH:N2:=fun W R N E P x0 x1 h=>
a_ W R N E P x0 x1 h
theorem aM{x0 x1:AV}{h:AH}{M:WK}{R:RK}(hp:bH (fun id=>M id\/h.next<=id) (aJ Pg [.tmp 4] R) (aJ Pg [.tmp 4] R) (fun _ _ _=>False) (fun v h=>R (.bW v) h) x0 x1 h):aA Pg 12 [x0,x1] h M R:=
 fin (n:=26) (pl:=[(6,⟨[(none,(fr 0 9))],false,[],[]⟩)]) (rs:=[.tmp 4]) (L:=rs) (fun c=>(a2 bH 0 1 c)) Tryz.mixed Tryz.func12 (fun c=>
(sq (a2 bH 0 1 c)
(sn
(sn
(sl (a0 n1 c))
(sq (a2 n9 0 1 c)
(bk 0 (lp [0,1,5] rs [(0,[])] (a3 n8 0 1 5 c) cG (fun i vs h=>if i=0 then n1 c.W c.R c.N c.E c.P h else c.E i vs h) (.b (.t .o)) fun c=>
(sn
(sn
(sm (a3 n2 0 1 5 c))
(bk 1 (sq (a3 n5 0 1 5 c)
(cd (a4 n4 0 1 5 25 c) tr tr))))
(sq (a3 n7 0 1 5 c)
(cd (a4 n6 0 1 5 14 c) tr tr)))))))
(sq (a2 a_ 0 1 c)
(cd (a3 bj 0 1 10 c) tr tr))))) hp
attribute [simp] n1 n2 n4 n5 n6 n7 n9 bj a_ bH
end tz
end Go.Proofs.YtjehibknlmehmaaGreat
