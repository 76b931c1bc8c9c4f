/- Bodies of the circuit checks; printed. No condition. -/
import Derived.Test.YtjehibknlmehmaaGreatDoorGl
set_option maxRecDepth 100000
namespace Go.Proofs.YtjehibknlmehmaaGreatDoor
open Go.Ab
namespace lT
abbrev rs:List Nat:=[2,3]
def n1:N0:=fun _ R _ _ _ h=>
R [(.sc (.int .i64 0)),(.sc (.int .i64 0))] h
def n2:N5:=fun _ _ N _ _ x1 x4 fk eB eD h=>
aa Pg .add 3 true eD (.sc (.int .i64 1)) fun t1=>
N [x1,x4,fk,eB,t1] h
def n3:N1:=fun _ R _ _ _ x5 h=>
R [x5,(.sc (.int .i64 116))] h
def n4:N7:=fun W R N E P x1 x4 x5 fk eB eD lf h=>
aE lf (
n3 W R N E P x5 h) (
n2 W R N E P x1 x4 fk eB eD h)
def n5:N6:=fun W R N E P x1 x4 x5 fk eB eD h=>
aa Pg .gtr 3 true x4 (.sc (.int .i64 36)) fun t2=>
n4 W R N E P x1 x4 x5 fk eB eD t2 h
def n6:N7:=fun W R N E P x1 x4 x5 x6 fk eB eD h=>
ai (some true) (some 7) x6 h fun t3 _=>
aC Pg W 28 [t3] h (fun t5 h6=>
aa Pg .add 3 false x4 t5 fun t7=>
n5 W R N E P x1 t7 x5 fk eB eD h6) P
def n7:N2:=fun _ R _ _ _ x5 x7 h=>
R [x5,x7] h
def n8:N9:=fun W R N E P x1 x4 x5 x6 x7 fk eB eD rA h=>
aE rA (
n7 W R N E P x5 x7 h) (
n6 W R N E P x1 x4 x5 x6 fk eB eD h)
def n9:N8:=fun W R N E P x1 x4 x5 x6 x7 fk eB eD h=>
aa Pg .neq 28 true x7 (.sc (.int .i64 0)) fun t8=>
n8 W R N E P x1 x4 x5 x6 x7 fk eB eD t8 h
def aP:N7:=fun W R N E P x1 x4 x5 x6 fk eB eD h=>
ai (some true) (some 3) x1 h fun t9 _=>
ai (some true) (some 7) x6 h fun t11 _=>
aC Pg W 27 [t9,t11] h (fun t13 sU=>
n9 W R N E P x1 x4 x5 x6 t13 fk eB eD sU) P
def aU:N5:=fun W R N E P x1 x4 fk eB eD h=>
bM (some (7,none)) fk eD fun t15=>
ai (some true) (some 7) t15 h fun t16 _=>
bH (some [.int .i64 0,.string ⟨#[]⟩,.slice none 0 0,.int .i64 0,.bool false,.int .u64 0,.int .u64 0]) 7 38 h fun t18 vC=>
aG (some 7) t18 t16 vC W fun qM=>
aP W R N E P x1 x4 eD t18 fk eB eD qM
def aQ:N6:=fun W R N E P x1 x4 fk eB eD vH h=>
aE vH (
aU W R N E P x1 x4 fk eB eD h) (
E 0 [] h)
def a_:N5:=fun W R N E P x1 x4 fk eB eD h=>
aa Pg .lss 3 false eD eB fun t21=>
aQ W R N E P x1 x4 fk eB eD t21 h
def cn:GK:=fun W R N E P N' vs h=>a_ W R N' (fun(i:Nat) (vs:List AV) (h:AH)=>if i=0 then n1 W R N E P h else E i vs h) P (vs.getD 0 ab) (vs.getD 1 ab) (vs.getD 2 ab) (vs.getD 3 ab) (vs.getD 4 ab) h
def bn:N5:=fun W R N E P x1 x4 fk eB eD h=>
da (cn W R N E P) [x1,x4,fk,eB,eD] h
def bj:N2:=fun W R N E P x1 x4 h=>
ag (some 2) x1 fun t22=>
ai (some false) (some 1) t22 h fun t23 _=>
(aW t23=false)/\bL t23 fun t25=>
bn W R N E P x1 x4 t23 t25 (.sc (.int .i64 0)) h
def aZ:N1:=fun W R N E P x1 h=>
bj W R N E P x1 (.sc (.int .i64 0)) h
def bg:N0:=fun _ R _ _ _ h=>
R [(.sc (.int .i64 0)),(.sc (.int .i64 115))] h
def bu:N2:=fun W R N E P x1 eE h=>
aE eE (
bg W R N E P h) (
aZ W R N E P x1 h)
def bz:N1:=fun W R N E P x1 h=>
ag (some 2) x1 fun t26=>
ai (some false) (some 1) t26 h fun t27 _=>
(aW t27=false)/\bL t27 fun t29=>
aa Pg .gtr 3 true t29 (.sc (.int .i64 4096)) fun t30=>
bu W R N E P x1 t30 h
def bC:N0:=fun _ R _ _ _ h=>
R [(.sc (.int .i64 0)),(.sc (.int .i64 2))] h
def bE:N2:=fun W R N E P x1 lV h=>
aE lV (
bC W R N E P h) (
bz W R N E P x1 h)
def bG:N3:=fun W R N E P x1 lh oP h=>
aJ lh (.sc (.bool true)) oP fun t31=>
bE W R N E P x1 t31 h
def bD:N2:=fun W R N E P x1 lh h=>
bd false lh (
ag (some 1) x1 fun t32=>
ai (some false) (some 1) t32 h fun t33 _=>
aa Pg .gtr 3 true t33 (.sc (.int .i64 64)) fun t35=>
bG W R N E P x1 lh t35 h) (
bG W R N E P x1 lh ab h)
def bZ:N3:=fun W R N E P x1 cR ol h=>
aJ cR (.sc (.bool true)) ol fun t36=>
bD W R N E P x1 t36 h
def bY:N2:=fun W R N E P x1 cR h=>
bd false cR (
ag (some 1) x1 fun t37=>
ai (some false) (some 1) t37 h fun t38 _=>
aa Pg .lss 3 true t38 (.sc (.int .i64 0)) fun t40=>
bZ W R N E P x1 cR t40 h) (
bZ W R N E P x1 cR ab h)
def bT:N3:=fun W R N E P x1 aA cg h=>
aJ aA (.sc (.bool true)) cg fun t41=>
bY W R N E P x1 t41 h
def bW:N2:=fun W R N E P x1 aA h=>
bd false aA (
ag (some 0) x1 fun t42=>
ai (some false) (some 1) t42 h fun t43 _=>
aa Pg .gtr 3 true t43 (.sc (.int .i64 64)) fun t45=>
bT W R N E P x1 aA t45 h) (
bT W R N E P x1 aA ab h)
def cj:N1:=fun W R N E P x1 h=>
ag (some 0) x1 fun t46=>
ai (some false) (some 1) t46 h fun t47 _=>
aa Pg .lss 3 true t47 (.sc (.int .i64 0)) fun t49=>
bW W R N E P x1 t49 h
def cq:N1:=fun W R N E P x0 h=>
dF 3 24 x0 h fun t50 yw=>
cj W R N E P t50 yw
theorem aI{x0:AV}{h:AH}{M:WK}{R:RK}(hp:cq (fun id=>M id\/h.next<=id) (aH Pg [.tmp 2,.tmp 3] R) (aH Pg [.tmp 2,.tmp 3] R) (fun _ _ _=>False) (fun v h=>R (.bV v) h) x0 h):ay Pg 14 [x0] h M R:=
 fin (n:=53) (pl:=[(1,⟨[(none,(fr 0 4)),(some (3,false),(fr 4 3)),(none,(fr 7 2)),(some (8,false),(fr 9 3)),(none,(fr 12 2)),(some (13,false),(fr 14 3)),(none,(fr 17 1))],false,[],[]⟩)]) (rs:=[.tmp 2,.tmp 3]) (L:=rs) (fun c=>(a1 cq 0 c)) Tryz.mixed Tryz.func14 (fun c=>
(sq (a1 cq 0 c)
(sn
(sn
(sq (a1 aZ 1 c)
(sn
(sl (a0 n1 c))
(sq (a2 bj 1 4 c)
(bk 0 (lp [1,4,31,32,33] rs [(0,[])] (a5 bn 1 4 31 32 33 c) cn (fun i vs h=>if i=0 then n1 c.W c.R c.N c.E c.P h else c.E i vs h) (.b (.t .o)) fun c=>
(sq (a5 a_ 1 4 31 32 33 c)
(sn
(sn
(sm (a5 n2 1 4 31 32 33 c))
(bk 1 (sq (a5 aU 1 4 31 32 33 c)
(sn
(sq (a7 n6 1 4 5 6 31 32 33 c)
(sq (a6 n5 1 4 5 31 32 33 c)
(cd (a7 n4 1 4 5 31 32 33 50 c) (sl (a1 n3 5 c)) tr)))
(sq (a7 aP 1 4 5 6 31 32 33 c)
(sq (a8 n9 1 4 5 6 7 31 32 33 c)
(cd (a9 n8 1 4 5 6 7 31 32 33 42 c) (sl (a2 n7 5 7 c)) tr)))))))
(cd (a6 aQ 1 4 31 32 33 34 c) tr tr))))))))
(sq (a1 bz 1 c)
(cd (a2 bu 1 29 c) (sl (a0 bg c)) tr)))
(sn
(cd (a2 bE 1 25 c) (sl (a0 bC c)) tr)
(gr (gn (a1 cj 1 c) (gx (a2 bW 1 11 c) (gn (a3 bT 1 11 14 c) (gx (a2 bY 1 16 c) (gn (a3 bZ 1 16 19 c) (gx (a2 bD 1 21 c) (gl (a3 bG 1 21 24 c))))))))))))) hp
attribute [simp] n1 n2 n3 n4 n5 n6 n7 n8 n9 aP aU aQ a_ bj aZ bg bu bz bC bE bG bD bZ bY bT bW cj cq
end lT
namespace cY
abbrev rs:List Nat:=[4]
def n1:N0:=fun _ R _ _ _ h=>
R [(.sc (.int .i64 0))] h
def n2:N4:=fun _ _ N _ _ x3 oq mX mW h=>
aa Pg .add 3 true mW (.sc (.int .i64 1)) fun t1=>
N [x3,oq,mX,t1] h
def n3:N0:=fun _ R _ _ _ h=>
R [(.sc (.int .i64 113))] h
def n4:N5:=fun W R N E P x3 oq mX mW Zi h=>
aE Zi (
n3 W R N E P h) (
n2 W R N E P x3 oq mX mW h)
def n5:N6:=fun W R N E P x3 ap aA oq mX mW h=>
ag (some 2) x3 fun t2=>
ai (some false) (some 1) t2 h fun t3 _=>
tj (some 1) t3 none (some ap) h fun t5=>
aC Pg W 45 [t5,aA] h (fun t6 h7=>
n4 W R N E P x3 oq mX mW t6 h7) P
def n6:N4:=fun W R N E P x3 oq mX mW h=>
bM (some (1,none)) oq mW fun t8=>
ai (some false) (some 1) t8 h fun t9 _=>
n5 W R N E P x3 mW t9 oq mX mW h
def n7:N5:=fun W R N E P x3 oq mX mW Zl h=>
aE Zl (
n6 W R N E P x3 oq mX mW h) (
E 3 [] h)
def n8:N4:=fun W R N E P x3 oq mX mW h=>
aa Pg .lss 3 false mW mX fun t11=>
n7 W R N E P x3 oq mX mW t11 h
def cn:GK:=fun W R N E P N' vs h=>n8 W R N' (fun(i:Nat) (vs:List AV) (h:AH)=>if i=3 then n1 W R N E P h else E i vs h) P (vs.getD 0 ab) (vs.getD 1 ab) (vs.getD 2 ab) (vs.getD 3 ab) h
def n9:N4:=fun W R N E P x3 oq mX mW h=>
da (cn W R N E P) [x3,oq,mX,mW] h
def aP:N1:=fun W R N E P x3 h=>
ag (some 2) x3 fun t12=>
ai (some false) (some 1) t12 h fun t13 _=>
(aW t13=false)/\bL t13 fun t15=>
n9 W R N E P x3 t13 t15 (.sc (.int .i64 0)) h
def aU:N0:=fun _ R _ _ _ h=>
R [(.sc (.int .i64 112))] h
def aQ:N2:=fun W R N E P x3 Mf h=>
aE Mf (
aU W R N E P h) (
aP W R N E P x3 h)
def a_:N3:=fun W R N E P x3 qu Zm h=>
aJ qu Zm (.sc (.bool false)) fun t16=>
aQ W R N E P x3 t16 h
def bn:N4:=fun W R N E P x3 qu yN Zn h=>
bd true qu (
aJ yN (.sc (.bool true)) Zn fun t17=>
a_ W R N E P x3 qu t17 h) (
a_ W R N E P x3 qu ab h)
def bj:N4:=fun W R N E P x2 x3 qu yN h=>
bd false yN (
ag (some 3) x3 fun t18=>
ai (some false) (some 1) t18 h fun t19 _=>
ag (some 1) x2 fun t21=>
ai (some false) (some 1) t21 h fun t22 _=>
aa Pg .geq 3 false t19 t22 fun t24=>
bn W R N E P x3 qu yN t24 h) (
bn W R N E P x3 qu yN ab h)
def aZ:N3:=fun W R N E P x2 x3 qu h=>
bd true qu (
ag (some 3) x3 fun t25=>
ai (some false) (some 1) t25 h fun t26 _=>
aa Pg .lss 3 true t26 (.sc (.int .i64 0)) fun t28=>
bj W R N E P x2 x3 qu t28 h) (
bj W R N E P x2 x3 qu ab h)
def bg:N2:=fun W R N E P x2 x3 h=>
ag (some 0) x3 fun t29=>
ai (some false) (some 1) t29 h fun t30 _=>
aa Pg .eql 3 true t30 (.sc (.int .i64 2)) fun t32=>
aZ W R N E P x2 x3 t32 h
def bu:N5:=fun _ _ N _ _ x2 x3 fK gP gU h=>
aa Pg .add 3 true gU (.sc (.int .i64 1)) fun t33=>
N [x2,x3,fK,gP,t33] h
def bz:N0:=fun _ R _ _ _ h=>
R [(.sc (.int .i64 112))] h
def bC:N6:=fun W R N E P x2 x3 fK gP gU Zs h=>
aE Zs (
bz W R N E P h) (
bu W R N E P x2 x3 fK gP gU h)
def bE:N7:=fun W R N E P x2 x3 fK gP gU ti Zt h=>
aJ ti (.sc (.bool true)) Zt fun t34=>
bC W R N E P x2 x3 fK gP gU t34 h
def bG:N7:=fun W R N E P x2 x3 x9 fK gP gU ti h=>
bd false ti (
ag (some 0) x2 fun t35=>
ai (some false) (some 1) t35 h fun t36 _=>
aa Pg .geq 3 false x9 t36 fun t38=>
bE W R N E P x2 x3 fK gP gU ti t38 h) (
bE W R N E P x2 x3 fK gP gU ti ab h)
def bD:N6:=fun W R N E P x2 x3 x9 fK gP gU h=>
aa Pg .lss 3 true x9 (.sc (.int .i64 0)) fun t39=>
bG W R N E P x2 x3 x9 fK gP gU t39 h
def bZ:N5:=fun W R N E P x2 x3 fK gP gU h=>
bM (some (1,none)) fK gU fun t40=>
ai (some false) (some 1) t40 h fun t41 _=>
bD W R N E P x2 x3 t41 fK gP gU h
def bY:N6:=fun W R N E P x2 x3 fK gP gU jl h=>
aE jl (
bZ W R N E P x2 x3 fK gP gU h) (
E 1 [x2,x3] h)
def bT:N5:=fun W R N E P x2 x3 fK gP gU h=>
aa Pg .lss 3 false gU gP fun t43=>
bY W R N E P x2 x3 fK gP gU t43 h
def fI:GK:=fun W R N E P N' vs h=>bT W R N' (fun(i:Nat) (vs:List AV) (h:AH)=>if i=1 then bg W R N E P (vs.getD 0 ab) (vs.getD 1 ab) h else E i vs h) P (vs.getD 0 ab) (vs.getD 1 ab) (vs.getD 2 ab) (vs.getD 3 ab) (vs.getD 4 ab) h
def bW:N5:=fun W R N E P x2 x3 fK gP gU h=>
da (fI W R N E P) [x2,x3,fK,gP,gU] h
def cj:N2:=fun W R N E P x2 x3 h=>
ag (some 2) x3 fun t44=>
ai (some false) (some 1) t44 h fun t45 _=>
(aW t45=false)/\bL t45 fun t47=>
bW W R N E P x2 x3 t45 t47 (.sc (.int .i64 0)) h
def cq:N0:=fun _ R _ _ _ h=>
R [(.sc (.int .i64 111))] h
def cN:N3:=fun W R N E P x2 x3 Sz h=>
aE Sz (
cq W R N E P h) (
cj W R N E P x2 x3 h)
def cV:N3:=fun W R N E P x2 x3 x7 h=>
ag (some 2) x3 fun t48=>
ai (some false) (some 1) t48 h fun t49 _=>
(aW t49=false)/\bL t49 fun t51=>
aa Pg .neq 3 false t51 x7 fun t52=>
cN W R N E P x2 x3 t52 h
def cX:N0:=fun _ R _ _ _ h=>
R [(.sc (.int .i64 80))] h
def dH:N4:=fun W R N E P x2 x3 x7 Ac h=>
aE Ac (
cX W R N E P h) (
cV W R N E P x2 x3 x7 h)
def eh:N3:=fun W R N E P x2 x3 x7 h=>
aa Pg .eql 3 true x7 (.sc (.int .i64 0)) fun t53=>
dH W R N E P x2 x3 x7 t53 h
def ft:N2:=fun W R N E P x2 x3 h=>
ag (some 1) x3 fun t54=>
ai (some false) (some 1) t54 h fun t55 _=>
aC Pg W 44 [t55] h (fun t57 tV=>
eh W R N E P x2 x3 t57 tV) P
def fc:N4:=fun W R N E P x2 x3 x7 SF h=>
aE SF (
ft W R N E P x2 x3 h) (
cV W R N E P x2 x3 x7 h)
def fQ:N3:=fun W R N E P x2 x3 x7 h=>
ag (some 0) x3 fun t59=>
ai (some false) (some 1) t59 h fun t60 _=>
aa Pg .eql 3 true t60 (.sc (.int .i64 1)) fun t62=>
fc W R N E P x2 x3 x7 t62 h
def fM:N2:=fun W R N E P x2 x3 h=>
fQ W R N E P x2 x3 (.sc (.int .i64 1)) h
def gh:N0:=fun _ R _ _ _ h=>
R [(.sc (.int .i64 120))] h
def fq:N0:=fun _ R _ _ _ h=>
R [(.sc (.int .i64 120))] h
def fp:N3:=fun W R N E P x2 x3 n_ h=>
aE n_ (
fq W R N E P h) (
fM W R N E P x2 x3 h)
def gg:N4:=fun W R N E P x2 x3 eQ pR h=>
aJ eQ pR (.sc (.bool false)) fun t63=>
fp W R N E P x2 x3 t63 h
def gI:N3:=fun W R N E P x2 x3 eQ h=>
bd true eQ (
ag (some 3) x3 fun t64=>
ai (some false) (some 1) t64 h fun t65 _=>
aa Pg .neq 3 true t65 (.sc (.int .i64 0)) fun t67=>
gg W R N E P x2 x3 eQ t67 h) (
gg W R N E P x2 x3 eQ ab h)
def gv:N2:=fun W R N E P x2 x3 h=>
ag (some 0) x3 fun t68=>
ai (some false) (some 1) t68 h fun t69 _=>
aa Pg .neq 3 true t69 (.sc (.int .i64 2)) fun t71=>
gI W R N E P x2 x3 t71 h
def iQ:N3:=fun W R N E P x2 x3 n_ h=>
aE n_ (
fp W R N E P x2 x3 n_ h) (
gv W R N E P x2 x3 h)
def gT:N4:=fun W R N E P x2 x3 pS SL h=>
aJ pS SL (.sc (.bool false)) fun t72=>
iQ W R N E P x2 x3 t72 h
def oS:N3:=fun W R N E P x2 x3 pS h=>
bd true pS (
ag (some 1) x3 fun t73=>
ai (some false) (some 1) t73 h fun t74 _=>
aa Pg .neq 9 true t74 (.sc (.string ⟨#[]⟩)) fun t76=>
gT W R N E P x2 x3 pS t76 h) (
gT W R N E P x2 x3 pS ab h)
def nQ:N2:=fun W R N E P x2 x3 h=>
ag (some 0) x3 fun t77=>
ai (some false) (some 1) t77 h fun t78 _=>
aa Pg .neq 3 true t78 (.sc (.int .i64 1)) fun t80=>
oS W R N E P x2 x3 t80 h
def jB:N3:=fun W R N E P x2 x3 eB h=>
aE eB (
gh W R N E P h) (
nQ W R N E P x2 x3 h)
def sE:N3:=fun W R N E P x2 x3 eB h=>
aE eB (
jB W R N E P x2 x3 eB h) (
ag (some 6) x3 fun t81=>
ai (some false) (some 1) t81 h fun t82 _=>
ag (some 5) x3 fun t84=>
ai (some false) (some 1) t84 h fun t85 _=>
aa Pg .andNot 36 false t82 t85 fun t87=>
aa Pg .neq 36 true t87 (.sc (.int .u64 0)) fun t88=>
jB W R N E P x2 x3 t88 h)
def vf:N3:=fun W R N E P x2 x3 x6 h=>
ag (some 5) x3 fun t89=>
ai (some false) (some 1) t89 h fun t90 _=>
aa Pg .andNot 36 false t90 x6 fun t92=>
aa Pg .neq 36 true t92 (.sc (.int .u64 0)) fun t93=>
sE W R N E P x2 x3 t93 h
def sD:N4:=fun W R N E P x2 x3 x6 eB h=>
aE eB (
jB W R N E P x2 x3 eB h) (
vf W R N E P x2 x3 x6 h)
def pZ:N5:=fun W R N E P x2 x3 x6 eA cL h=>
aJ eA cL (.sc (.bool false)) fun t94=>
sD W R N E P x2 x3 x6 t94 h
def we:N6:=fun W R N E P x2 x3 x6 eA iI kQ h=>
bd true eA (
aJ iI (.sc (.bool true)) kQ fun t95=>
pZ W R N E P x2 x3 x6 eA t95 h) (
pZ W R N E P x2 x3 x6 eA ab h)
def AL:N5:=fun W R N E P x2 x3 x6 eA iI h=>
bd false iI (
ag (some 6) x3 fun t96=>
ai (some false) (some 1) t96 h fun t97 _=>
aa Pg .neq 36 true t97 (.sc (.int .u64 0)) fun t99=>
we W R N E P x2 x3 x6 eA iI t99 h) (
we W R N E P x2 x3 x6 eA iI ab h)
def AK:N4:=fun W R N E P x2 x3 x6 eA h=>
bd true eA (
ag (some 5) x3 fun t100=>
ai (some false) (some 1) t100 h fun t101 _=>
aa Pg .neq 36 true t101 (.sc (.int .u64 0)) fun t103=>
AL W R N E P x2 x3 x6 eA t103 h) (
AL W R N E P x2 x3 x6 eA ab h)
def Ty:N3:=fun W R N E P x2 x3 x6 h=>
ag (some 4) x3 fun t104=>
ai (some false) (some 1) t104 h fun t105 _=>
e_ .not t105 fun t107=>
AK W R N E P x2 x3 x6 t107 h
def Tx:N4:=fun W R N E P x2 x3 x6 eB h=>
aE eB (
jB W R N E P x2 x3 eB h) (
Ty W R N E P x2 x3 x6 h)
def Pf:N5:=fun W R N E P x2 x3 x6 eL gR h=>
aJ eL gR (.sc (.bool false)) fun t108=>
Tx W R N E P x2 x3 x6 t108 h
def Tw:N4:=fun W R N E P x2 x3 x6 eL h=>
bd true eL (
ag (some 5) x3 fun t109=>
ai (some false) (some 1) t109 h fun t110 _=>
aa Pg .eql 36 true t110 (.sc (.int .u64 0)) fun t112=>
Pf W R N E P x2 x3 x6 eL t112 h) (
Pf W R N E P x2 x3 x6 eL ab h)
def Tv:N3:=fun W R N E P x2 x3 x6 h=>
ag (some 4) x3 fun t113=>
ai (some false) (some 1) t113 h fun t114 _=>
Tw W R N E P x2 x3 x6 t114 h
def Tu:N4:=fun W R N E P x2 x3 x6 eB h=>
aE eB (
jB W R N E P x2 x3 eB h) (
Tv W R N E P x2 x3 x6 h)
def ED:N4:=fun W R N E P x2 x3 x5 x6 h=>
e_ .not x5 fun t116=>
Tu W R N E P x2 x3 x6 t116 h
def Pe:N5:=fun W R N E P x2 x3 x5 x6 fk h=>
aE fk (
ED W R N E P x2 x3 x5 (.sc (.int .u64 18446744073709551615)) h) (
ED W R N E P x2 x3 x5 x6 h)
def Pd:N4:=fun W R N E P x2 x3 x5 x6 h=>
ag (some 1) x2 fun t117=>
ai (some false) (some 1) t117 h fun t118 _=>
aa Pg .eql 3 true t118 (.sc (.int .i64 64)) fun t120=>
Pe W R N E P x2 x3 x5 x6 t120 h
def CM:N3:=fun W R N E P x2 x3 x5 h=>
ag (some 1) x2 fun t121=>
ai (some false) (some 1) t121 h fun t122 _=>
aa Pg .shl 36 true (.sc (.int .u64 1)) t122 fun t124=>
aa Pg .sub 36 true t124 (.sc (.int .u64 1)) fun t125=>
Pd W R N E P x2 x3 x5 t125 h
def AJ:N4:=fun W R N E P x2 x3 lW jQ h=>
aJ lW (.sc (.bool true)) jQ fun t126=>
CM W R N E P x2 x3 t126 h
def Tt:N3:=fun W R N E P x2 x3 lW h=>
bd false lW (
ag (some 0) x3 fun t127=>
ai (some false) (some 1) t127 h fun t128 _=>
aa Pg .eql 3 true t128 (.sc (.int .i64 3)) fun t130=>
AJ W R N E P x2 x3 lW t130 h) (
AJ W R N E P x2 x3 lW ab h)
def Pc:N4:=fun W R N E P x2 x3 dn il h=>
aJ dn (.sc (.bool true)) il fun t131=>
Tt W R N E P x2 x3 t131 h
def Ts:N3:=fun W R N E P x2 x3 dn h=>
bd false dn (
ag (some 0) x3 fun t132=>
ai (some false) (some 1) t132 h fun t133 _=>
aa Pg .eql 3 true t133 (.sc (.int .i64 2)) fun t135=>
Pc W R N E P x2 x3 dn t135 h) (
Pc W R N E P x2 x3 dn ab h)
def Pb:N2:=fun W R N E P x2 x3 h=>
ag (some 0) x3 fun t136=>
ai (some false) (some 1) t136 h fun t137 _=>
aa Pg .eql 3 true t137 (.sc (.int .i64 1)) fun t139=>
Ts W R N E P x2 x3 t139 h
def Kt:N2:=fun W R N E P x0 x1 h=>
dF 3 24 x0 h fun t140 Np=>
dF 7 38 x1 Np fun t142 abc=>
Pb W R N E P t140 t142 abc
theorem aI{x0 x1:AV}{h:AH}{M:WK}{R:RK}(hp:Kt (fun id=>M id\/h.next<=id) (aH Pg [.tmp 4] R) (aH Pg [.tmp 4] R) (fun _ _ _=>False) (fun v h=>R (.bV v) h) x0 x1 h):ay Pg 27 [x0,x1] h M R:=
 fin (n:=142) (pl:=[(1,⟨[(none,(fr 0 4)),(some (3,false),(fr 4 3)),(none,(fr 7 2)),(some (8,false),(fr 9 3)),(none,(fr 12 2))],false,[],[]⟩),(6,⟨[(none,(fr 0 3)),(some (2,true),(fr 3 3)),(none,(fr 6 2))],false,[],[]⟩),(7,⟨[(none,(fr 0 4)),(some (3,true),(fr 4 4)),(some (7,false),(fr 8 3)),(some (3,true),(fr 11 1)),(none,(fr 12 2))],false,[],[]⟩),(11,⟨[(none,(fr 0 4)),(some (3,true),(fr 4 3)),(none,(fr 7 2))],false,[],[]⟩),(12,⟨[(none,(fr 0 4)),(some (3,true),(fr 4 3)),(none,(fr 7 2))],false,[],[]⟩),(24,⟨[(none,(fr 0 3)),(some (2,false),(fr 3 4)),(none,(fr 7 1))],false,[],[]⟩),(27,⟨[(none,(fr 0 4)),(some (3,true),(fr 4 4)),(some (7,false),(fr 8 5)),(some (3,true),(fr 13 1)),(none,(fr 14 1))],false,[],[]⟩)]) (rs:=[.tmp 4]) (L:=rs) (fun c=>(a2 Kt 0 1 c)) Tryz.mixed Tryz.func27 (fun c=>
(sq (a2 Kt 0 1 c)
(sn
(sq (a3 CM 2 3 5 c)
(sn
(sn
(sq (a2 fM 2 3 c)
(sn
(sn
(sn
(sn
(sn
(sl (a0 n1 c))
(sq (a1 aP 3 c)
(bk 3 (lp [3,128,129,130] rs [(3,[])] (a4 n9 3 128 129 130 c) cn (fun i vs h=>if i=3 then n1 c.W c.R c.N c.E c.P h else c.E i vs h) (.b (.t .o)) fun c=>
(sq (a4 n8 3 128 129 130 c)
(sn
(sn
(sm (a4 n2 3 128 129 130 c))
(bk 4 (sq (a4 n6 3 128 129 130 c)
(sq (a6 n5 3 10 11 128 129 130 c)
(cd (a5 n4 3 128 129 130 140 c) (sl (a0 n3 c)) tr)))))
(cd (a5 n7 3 128 129 130 131 c) tr tr)))))))
(sn
(cd (a2 aQ 3 126 c) (sl (a0 aU c)) tr)
(gr (gn (a2 bg 2 3 c) (gx (a3 aZ 2 3 115 c) (gx (a4 bj 2 3 115 119 c) (gx (a4 bn 3 115 119 124 c) (gl (a3 a_ 3 115 125 c)))))))))
(sq (a2 cj 2 3 c)
(bk 1 (lp [2,3,97,98,99] rs [(1,[2,3])] (a5 bW 2 3 97 98 99 c) fI (fun i vs h=>if i=1 then bg c.W c.R c.N c.E c.P (vs.getD 0 ab) (vs.getD 1 ab) h else c.E i vs h) (.b (.t .o)) fun c=>
(sq (a5 bT 2 3 97 98 99 c)
(sn
(sn
(sm (a5 bu 2 3 97 98 99 c))
(bk 2 (sq (a5 bZ 2 3 97 98 99 c)
(sn
(cd (a6 bC 2 3 97 98 99 110 c) (sl (a0 bz c)) tr)
(gr (gn (a6 bD 2 3 9 97 98 99 c) (gx (a7 bG 2 3 9 97 98 99 105 c) (gl (a7 bE 2 3 97 98 99 105 109 c)))))))))
(cd (a6 bY 2 3 97 98 99 100 c) tr tr)))))))
(sq (a3 cV 2 3 7 c)
(cd (a3 cN 2 3 95 c) (sl (a0 cq c)) tr)))
(sq (a3 fQ 2 3 7 c)
(cd (a4 fc 2 3 7 85 c) (sq (a2 ft 2 3 c)
(sq (a3 eh 2 3 7 c)
(cd (a4 dH 2 3 7 90 c) (sl (a0 cX c)) tr))) tr))))
(bk 0 (sn
(cd (a3 jB 2 3 32 c) (sl (a0 gh c)) (sn
(cd (a3 fp 2 3 66 c) (sl (a0 fq c)) tr)
(sn
(cd (a3 iQ 2 3 66 c) tr (gr (gn (a2 gv 2 3 c) (gx (a3 gI 2 3 78 c) (gl (a4 gg 2 3 78 81 c))))))
(gr (gn (a2 nQ 2 3 c) (gx (a3 oS 2 3 70 c) (gl (a4 gT 2 3 70 73 c))))))))
(sq (a4 ED 2 3 5 6 c)
(cd (a4 Tu 2 3 6 32 c) tr (sn
(cd (a4 Tx 2 3 6 32 c) tr (sn
(cd (a4 sD 2 3 6 32 c) tr (sq (a3 vf 2 3 6 c)
(cd (a3 sE 2 3 32 c) tr tr)))
(gr (gn (a3 Ty 2 3 6 c) (gx (a4 AK 2 3 6 45 c) (gx (a5 AL 2 3 6 45 49 c) (gx (a6 we 2 3 6 45 49 52 c) (gl (a5 pZ 2 3 6 45 53 c)))))))))
(gr (gn (a3 Tv 2 3 6 c) (gx (a4 Tw 2 3 6 37 c) (gl (a5 Pf 2 3 6 37 40 c)))))))))))
(sq (a4 Pd 2 3 5 6 c)
(cd (a5 Pe 2 3 5 6 31 c) tr tr))))
(gr (gn (a2 Pb 2 3 c) (gx (a3 Ts 2 3 15 c) (gn (a4 Pc 2 3 15 18 c) (gx (a3 Tt 2 3 20 c) (gl (a4 AJ 2 3 20 23 c)))))))))) hp
attribute [simp] n1 n2 n3 n4 n5 n6 n7 n8 aP aU aQ a_ bn bj aZ bg bu bz bC bE bG bD bZ bY bT cj cq cN cV cX dH eh ft fc fQ fM gh fq fp gg gI gv iQ gT oS nQ jB sE vf sD pZ we AL AK Ty Tx Pf Tw Tv Tu ED Pe Pd CM AJ Tt Pc Ts Pb Kt
end cY
namespace HU
abbrev rs:List Nat:=[2]
def n1:N1:=fun W R _ _ P x1 h=>
ag (some 1) x1 fun t1=>
ai (some false) (some 1) t1 h fun t2 _=>
aC Pg W 46 [t2] h (fun t4 h5=>
R [t4] h5) P
def n2:N0:=fun _ R _ _ _ h=>
R [(.sc (.int .i64 0))] h
def n3:N2:=fun W R N E P x1 x5 h=>
aE x5 (
n2 W R N E P h) (
n1 W R N E P x1 h)
def n4:N1:=fun W R N E P x1 h=>
ag (some 0) x1 fun t6=>
ai (some false) (some 1) t6 h fun t7 _=>
aa Pg .neq 3 true t7 (.sc (.int .i64 1)) fun t9=>
n3 W R N E P x1 t9 h
def n5:N1:=fun W R N E P x0 h=>
dF 7 38 x0 h fun t10 mq=>
n4 W R N E P t10 mq
theorem aI{x0:AV}{h:AH}{M:WK}{R:RK}(hp:n5 (fun id=>M id\/h.next<=id) (aH Pg [.tmp 2] R) (aH Pg [.tmp 2] R) (fun _ _ _=>False) (fun v h=>R (.bV v) h) x0 h):ay Pg 28 [x0] h M R:=
 fin (n:=9) (pl:=[]) (rs:=[.tmp 2]) (L:=rs) (fun c=>(a1 n5 0 c)) Tryz.mixed Tryz.func28 (fun c=>
(sq (a1 n5 0 c)
(sn
(sl (a1 n1 1 c))
(sq (a1 n4 1 c)
(cd (a2 n3 1 5 c) (sl (a0 n2 c)) tr))))) hp
attribute [simp] n1 n2 n3 n4 n5
end HU
namespace mC
abbrev rs:List Nat:=[2,3]
def n1:N0:=fun _ R _ _ _ h=>
R [(.sc (.int .i64 0)),(.sc (.int .i64 0))] h
def n2:N3:=fun _ _ N _ _ x1 x4 x5 h=>
aa Pg .add 3 true x5 (.sc (.int .i64 1)) fun t1=>
N [x1,x4,t1] h
def n3:N1:=fun _ R _ _ _ x5 h=>
R [x5,(.sc (.int .i64 116))] h
def n4:N4:=fun W R N E P x1 x4 x5 jx h=>
aE jx (
n3 W R N E P x5 h) (
n2 W R N E P x1 x4 x5 h)
def n5:N3:=fun W R N E P x1 x4 x5 h=>
aa Pg .gtr 3 true x4 (.sc (.int .i64 36)) fun t2=>
n4 W R N E P x1 x4 x5 t2 h
def n6:N3:=fun W R N E P x1 x4 x5 h=>
ag (some 2) x1 fun t3=>
ai (some false) (some 1) t3 h fun t4 _=>
bM (some (7,none)) t4 x5 fun t6=>
ai (some true) (some 7) t6 h fun t7 _=>
aC Pg W 23 [t7] h (fun t9 kV=>
aa Pg .add 3 false x4 t9 fun t11=>
n5 W R N E P x1 t11 x5 kV) P
def n7:N2:=fun _ R _ _ _ x5 x6 h=>
R [x5,x6] h
def n8:N5:=fun W R N E P x1 x4 x5 x6 iX h=>
aE iX (
n7 W R N E P x5 x6 h) (
n6 W R N E P x1 x4 x5 h)
def n9:N4:=fun W R N E P x1 x4 x5 x6 h=>
aa Pg .neq 3 true x6 (.sc (.int .i64 0)) fun t12=>
n8 W R N E P x1 x4 x5 x6 t12 h
def aP:N3:=fun W R N E P x1 x4 x5 h=>
ag (some 2) x1 fun t13=>
ai (some false) (some 1) t13 h fun t14 _=>
bM (some (7,none)) t14 x5 fun t16=>
ai (some true) (some 7) t16 h fun t17 _=>
ag (some 0) x1 fun t19=>
ai (some false) (some 1) t19 h fun t20 _=>
ag (some 1) x1 fun t22=>
ai (some false) (some 1) t22 h fun t23 _=>
aC Pg sB 22 [t17,t20,t23] h (fun t25 mV=>
n9 W R N E P x1 x4 x5 t25 mV) P
def aU:N4:=fun W R N E P x1 x4 x5 eD h=>
aE eD (
aP W R N E P x1 x4 x5 h) (
E 0 [] h)
def aQ:N3:=fun W R N E P x1 x4 x5 h=>
ag (some 2) x1 fun t27=>
ai (some false) (some 1) t27 h fun t28 _=>
(aW t28=false)/\bL t28 fun t30=>
aa Pg .lss 3 false x5 t30 fun t31=>
aU W R N E P x1 x4 x5 t31 h
def cn:GK:=fun W R N E P N' vs h=>aQ W R N' (fun(i:Nat) (vs:List AV) (h:AH)=>if i=0 then n1 W R N E P h else E i vs h) P (vs.getD 0 ab) (vs.getD 1 ab) (vs.getD 2 ab) h
def a_:N3:=fun W R N E P x1 x4 x5 h=>
da (cn W R N E P) [x1,x4,x5] h
def bn:N2:=fun W R N E P x1 x4 h=>
a_ W R N E P x1 x4 (.sc (.int .i64 0)) h
def bj:N1:=fun W R N E P x1 h=>
bn W R N E P x1 (.sc (.int .i64 0)) h
def aZ:N0:=fun _ R _ _ _ h=>
R [(.sc (.int .i64 0)),(.sc (.int .i64 115))] h
def bg:N2:=fun W R N E P x1 dW h=>
aE dW (
aZ W R N E P h) (
bj W R N E P x1 h)
def bu:N1:=fun W R N E P x1 h=>
ag (some 2) x1 fun t32=>
ai (some false) (some 1) t32 h fun t33 _=>
(aW t33=false)/\bL t33 fun t35=>
aa Pg .gtr 3 true t35 (.sc (.int .i64 4096)) fun t36=>
bg W R N E P x1 t36 h
def bz:N0:=fun _ R _ _ _ h=>
R [(.sc (.int .i64 0)),(.sc (.int .i64 2))] h
def bC:N2:=fun W R N E P x1 oP h=>
aE oP (
bz W R N E P h) (
bu W R N E P x1 h)
def bE:N3:=fun W R N E P x1 lW jQ h=>
aJ lW (.sc (.bool true)) jQ fun t37=>
bC W R N E P x1 t37 h
def bG:N2:=fun W R N E P x1 lW h=>
bd false lW (
ag (some 1) x1 fun t38=>
ai (some false) (some 1) t38 h fun t39 _=>
aa Pg .gtr 3 true t39 (.sc (.int .i64 64)) fun t41=>
bE W R N E P x1 lW t41 h) (
bE W R N E P x1 lW ab h)
def bD:N3:=fun W R N E P x1 dn il h=>
aJ dn (.sc (.bool true)) il fun t42=>
bG W R N E P x1 t42 h
def bZ:N2:=fun W R N E P x1 dn h=>
bd false dn (
ag (some 1) x1 fun t43=>
ai (some false) (some 1) t43 h fun t44 _=>
aa Pg .lss 3 true t44 (.sc (.int .i64 0)) fun t46=>
bD W R N E P x1 dn t46 h) (
bD W R N E P x1 dn ab h)
def bY:N3:=fun W R N E P x1 ap bc h=>
aJ ap (.sc (.bool true)) bc fun t47=>
bZ W R N E P x1 t47 h
def bT:N2:=fun W R N E P x1 ap h=>
bd false ap (
ag (some 0) x1 fun t48=>
ai (some false) (some 1) t48 h fun t49 _=>
aa Pg .gtr 3 true t49 (.sc (.int .i64 64)) fun t51=>
bY W R N E P x1 ap t51 h) (
bY W R N E P x1 ap ab h)
def bW:N1:=fun W R N E P x1 h=>
ag (some 0) x1 fun t52=>
ai (some false) (some 1) t52 h fun t53 _=>
aa Pg .lss 3 true t53 (.sc (.int .i64 0)) fun t55=>
bT W R N E P x1 t55 h
def cj:N1:=fun W R N E P x0 h=>
dF 3 24 x0 h fun t56 wN=>
bW W R N E P t56 wN
theorem aI{x0:AV}{h:AH}{M:WK}{R:RK}(hp:cj (fun id=>M id\/h.next<=id) (aH Pg [.tmp 2,.tmp 3] R) (aH Pg [.tmp 2,.tmp 3] R) (fun _ _ _=>False) (fun v h=>R (.bV v) h) x0 h):ay Pg 10 [x0] h M R:=
 fin (n:=61) (pl:=[(1,⟨[(none,(fr 0 4)),(some (3,false),(fr 4 3)),(none,(fr 7 2)),(some (8,false),(fr 9 3)),(none,(fr 12 2)),(some (13,false),(fr 14 3)),(none,(fr 17 1))],false,[],[]⟩),(9,⟨[(none,(fr 0 11))],false,[],[9]⟩)]) (rs:=[.tmp 2,.tmp 3]) (L:=rs) (fun c=>(a1 cj 0 c)) Tryz.mixed Tryz.func10 (fun c=>
(sq (a1 cj 0 c)
(sn
(sn
(sq (a1 bj 1 c)
(sn
(sl (a0 n1 c))
(sq (a2 bn 1 4 c)
(bk 0 (lp [1,4,5] rs [(0,[])] (a3 a_ 1 4 5 c) cn (fun i vs h=>if i=0 then n1 c.W c.R c.N c.E c.P h else c.E i vs h) (.b (.t .o)) fun c=>
(sn
(sn
(sm (a3 n2 1 4 5 c))
(bk 1 (sn
(sq (a3 n6 1 4 5 c)
(sq (a3 n5 1 4 5 c)
(cd (a4 n4 1 4 5 59 c) (sl (a1 n3 5 c)) tr)))
(sn
(sq (a4 n9 1 4 5 6 c)
(cd (a5 n8 1 4 5 6 47 c) (sl (a2 n7 5 6 c)) tr))
(gr (gl (a3 aP 1 4 5 c)))))))
(sq (a3 aQ 1 4 5 c)
(cd (a4 aU 1 4 5 33 c) tr tr))))))))
(sq (a1 bu 1 c)
(cd (a2 bg 1 28 c) (sl (a0 aZ c)) tr)))
(sn
(cd (a2 bC 1 24 c) (sl (a0 bz c)) tr)
(gr (gn (a1 bW 1 c) (gx (a2 bT 1 10 c) (gn (a3 bY 1 10 13 c) (gx (a2 bZ 1 15 c) (gn (a3 bD 1 15 18 c) (gx (a2 bG 1 20 c) (gl (a3 bE 1 20 23 c))))))))))))) hp
attribute [simp] n1 n2 n3 n4 n5 n6 n7 n8 n9 aP aU aQ bn bj aZ bg bu bz bC bE bG bD bZ bY bT bW cj
end mC
namespace dM
abbrev rs:List Nat:=[6]
def n1:N0:=fun _ R _ _ _ h=>
R [(.sc (.int .i64 0))] h
def n2:N3:=fun _ _ N _ _ x3 x8 ap h=>
aa Pg .add 3 true ap (.sc (.int .i64 1)) fun t1=>
N [x3,x8,t1] h
def n3:N4:=fun _ _ N _ _ x3 x8 ap aA h=>
aa Pg .add 3 true aA (.sc (.int .i64 1)) fun t2=>
N [x3,x8,ap,t2] h
def n4:N0:=fun _ R _ _ _ h=>
R [(.sc (.int .i64 113))] h
def n5:N5:=fun W R N E P x3 x8 ap aA SF h=>
aE SF (
n4 W R N E P h) (
n3 W R N E P x3 x8 ap aA h)
def n6:N4:=fun W R N E P x3 x8 ap aA h=>
ag (some 2) x3 fun t3=>
ai (some false) (some 1) t3 h fun t4 _=>
bM (some (1,none)) t4 ap fun t6=>
ai (some false) (some 1) t6 h fun t7 _=>
ag (some 2) x3 fun t9=>
ai (some false) (some 1) t9 h fun t10 _=>
bM (some (1,none)) t10 aA fun t12=>
ai (some false) (some 1) t12 h fun t13 _=>
aa Pg .eql 3 false t7 t13 fun t15=>
n5 W R N E P x3 x8 ap aA t15 h
def n7:N5:=fun W R N E P x3 x8 ap aA Af h=>
aE Af (
n6 W R N E P x3 x8 ap aA h) (
E 4 [x3,x8,ap] h)
def n8:N4:=fun W R N E P x3 x8 ap aA h=>
aa Pg .lss 3 false aA ap fun t16=>
n7 W R N E P x3 x8 ap aA t16 h
def fI:GK:=fun W R N E P N' vs h=>n8 W R N' (fun(i:Nat) (vs:List AV) (h:AH)=>if i=4 then n2 W R N E P (vs.getD 0 ab) (vs.getD 1 ab) (vs.getD 2 ab) h else if i=3 then n2 W R N E P (vs.getD 0 ab) (vs.getD 1 ab) (vs.getD 2 ab) h else E i vs h) P (vs.getD 0 ab) (vs.getD 1 ab) (vs.getD 2 ab) (vs.getD 3 ab) h
def n9:N4:=fun W R N E P x3 x8 ap aA h=>
da (fI W R N E P) [x3,x8,ap,aA] h
def aP:N3:=fun W R N E P x3 x8 ap h=>
n9 W R N E P x3 x8 ap (.sc (.int .i64 0)) h
def aU:N4:=fun W R N E P x3 x8 ap fC h=>
aE fC (
aP W R N E P x3 x8 ap h) (
E 2 [] h)
def aQ:N3:=fun W R N E P x3 x8 ap h=>
aa Pg .lss 3 false ap x8 fun t17=>
aU W R N E P x3 x8 ap t17 h
def cn:GK:=fun W R N E P N' vs h=>aQ W R N' (fun(i:Nat) (vs:List AV) (h:AH)=>if i=2 then n1 W R N E P h else E i vs h) P (vs.getD 0 ab) (vs.getD 1 ab) (vs.getD 2 ab) h
def a_:N3:=fun W R N E P x3 x8 ap h=>
da (cn W R N E P) [x3,x8,ap] h
def bn:N2:=fun W R N E P x3 x8 h=>
a_ W R N E P x3 x8 (.sc (.int .i64 0)) h
def bj:N0:=fun _ R _ _ _ h=>
R [(.sc (.int .i64 112))] h
def aZ:N3:=fun W R N E P x3 x8 Ah h=>
aE Ah (
bj W R N E P h) (
bn W R N E P x3 x8 h)
def bg:N4:=fun W R N E P x3 x8 c7 oe h=>
aJ c7 oe (.sc (.bool false)) fun t18=>
aZ W R N E P x3 x8 t18 h
def bu:N5:=fun W R N E P x3 x8 c7 Ai pT h=>
bd true c7 (
aJ Ai (.sc (.bool true)) pT fun t19=>
bg W R N E P x3 x8 c7 t19 h) (
bg W R N E P x3 x8 c7 ab h)
def bz:N5:=fun W R N E P x2 x3 x8 c7 Ai h=>
bd false Ai (
ag (some 3) x3 fun t20=>
ai (some false) (some 1) t20 h fun t21 _=>
aa Pg .geq 3 false t21 x2 fun t23=>
bu W R N E P x3 x8 c7 Ai t23 h) (
bu W R N E P x3 x8 c7 Ai ab h)
def bC:N4:=fun W R N E P x2 x3 x8 c7 h=>
bd true c7 (
ag (some 3) x3 fun t24=>
ai (some false) (some 1) t24 h fun t25 _=>
aa Pg .lss 3 true t25 (.sc (.int .i64 0)) fun t27=>
bz W R N E P x2 x3 x8 c7 t27 h) (
bz W R N E P x2 x3 x8 c7 ab h)
def bE:N3:=fun W R N E P x2 x3 x8 h=>
ag (some 0) x3 fun t28=>
ai (some false) (some 1) t28 h fun t29 _=>
aa Pg .eql 3 true t29 (.sc (.int .i64 2)) fun t31=>
bC W R N E P x2 x3 x8 t31 h
def bG:N5:=fun _ _ N _ _ x1 x2 x3 x8 x9 h=>
aa Pg .add 3 true x9 (.sc (.int .i64 1)) fun t32=>
N [x1,x2,x3,x8,t32] h
def bD:N0:=fun _ R _ _ _ h=>
R [(.sc (.int .i64 112))] h
def bZ:N6:=fun W R N E P x1 x2 x3 x8 x9 lf h=>
aE lf (
bD W R N E P h) (
bG W R N E P x1 x2 x3 x8 x9 h)
def bY:N7:=fun W R N E P x1 x2 x3 x8 x9 rA iI h=>
aJ rA (.sc (.bool true)) iI fun t33=>
bZ W R N E P x1 x2 x3 x8 x9 t33 h
def bT:N6:=fun W R N E P x1 x2 x3 x8 x9 rA h=>
bd false rA (
ag (some 2) x3 fun t34=>
ai (some false) (some 1) t34 h fun t35 _=>
bM (some (1,none)) t35 x9 fun t37=>
ai (some false) (some 1) t37 h fun t38 _=>
aa Pg .geq 3 false t38 x1 fun t40=>
bY W R N E P x1 x2 x3 x8 x9 rA t40 h) (
bY W R N E P x1 x2 x3 x8 x9 rA ab h)
def bW:N5:=fun W R N E P x1 x2 x3 x8 x9 h=>
ag (some 2) x3 fun t41=>
ai (some false) (some 1) t41 h fun t42 _=>
bM (some (1,none)) t42 x9 fun t44=>
ai (some false) (some 1) t44 h fun t45 _=>
aa Pg .lss 3 true t45 (.sc (.int .i64 0)) fun t47=>
bT W R N E P x1 x2 x3 x8 x9 t47 h
def cj:N6:=fun W R N E P x1 x2 x3 x8 x9 eD h=>
aE eD (
bW W R N E P x1 x2 x3 x8 x9 h) (
E 0 [x2,x3,x8] h)
def cq:N5:=fun W R N E P x1 x2 x3 x8 x9 h=>
aa Pg .lss 3 false x9 x8 fun t48=>
cj W R N E P x1 x2 x3 x8 x9 t48 h
def rY:GK:=fun W R N E P N' vs h=>cq W R N' (fun(i:Nat) (vs:List AV) (h:AH)=>if i=0 then bE W R N E P (vs.getD 0 ab) (vs.getD 1 ab) (vs.getD 2 ab) h else E i vs h) P (vs.getD 0 ab) (vs.getD 1 ab) (vs.getD 2 ab) (vs.getD 3 ab) (vs.getD 4 ab) h
def cN:N5:=fun W R N E P x1 x2 x3 x8 x9 h=>
da (rY W R N E P) [x1,x2,x3,x8,x9] h
def cV:N4:=fun W R N E P x1 x2 x3 x8 h=>
cN W R N E P x1 x2 x3 x8 (.sc (.int .i64 0)) h
def cX:N0:=fun _ R _ _ _ h=>
R [(.sc (.int .i64 111))] h
def dH:N5:=fun W R N E P x1 x2 x3 x8 vI h=>
aE vI (
cX W R N E P h) (
cV W R N E P x1 x2 x3 x8 h)
def eh:N4:=fun W R N E P x1 x2 x3 x8 h=>
ag (some 2) x3 fun t49=>
ai (some false) (some 1) t49 h fun t50 _=>
(aW t50=false)/\bL t50 fun t52=>
aa Pg .neq 3 false t52 x8 fun t53=>
dH W R N E P x1 x2 x3 x8 t53 h
def ft:N0:=fun _ R _ _ _ h=>
R [(.sc (.int .i64 80))] h
def fc:N5:=fun W R N E P x1 x2 x3 x8 lV h=>
aE lV (
ft W R N E P h) (
eh W R N E P x1 x2 x3 x8 h)
def fQ:N4:=fun W R N E P x1 x2 x3 x8 h=>
aa Pg .eql 3 true x8 (.sc (.int .i64 0)) fun t54=>
fc W R N E P x1 x2 x3 x8 t54 h
def fM:N3:=fun W R N E P x1 x2 x3 h=>
ag (some 1) x3 fun t55=>
ai (some false) (some 1) t55 h fun t56 _=>
aC Pg W 40 [t56] h (fun t58 Fp=>
fQ W R N E P x1 x2 x3 t58 Fp) P
def gh:N5:=fun W R N E P x1 x2 x3 x8 lW h=>
aE lW (
fM W R N E P x1 x2 x3 h) (
eh W R N E P x1 x2 x3 x8 h)
def fq:N4:=fun W R N E P x1 x2 x3 x8 h=>
ag (some 0) x3 fun t60=>
ai (some false) (some 1) t60 h fun t61 _=>
aa Pg .eql 3 true t61 (.sc (.int .i64 1)) fun t63=>
gh W R N E P x1 x2 x3 x8 t63 h
def fp:N3:=fun W R N E P x1 x2 x3 h=>
fq W R N E P x1 x2 x3 (.sc (.int .i64 1)) h
def gg:N1:=fun _ R _ _ _ x7 h=>
R [x7] h
def gI:N5:=fun W R N E P x1 x2 x3 x7 cR h=>
aE cR (
gg W R N E P x7 h) (
fp W R N E P x1 x2 x3 h)
def gv:N4:=fun W R N E P x1 x2 x3 x7 h=>
aa Pg .neq 3 true x7 (.sc (.int .i64 0)) fun t64=>
gI W R N E P x1 x2 x3 x7 t64 h
def iQ:N3:=fun W R N E P x1 x2 x3 h=>
ai (some true) (some 7) x3 h fun t65 _=>
aC Pg W 39 [t65,x2] h (fun t67 Fj=>
gv W R N E P x1 x2 x3 t67 Fj) P
def gT:N3:=fun W R N E P x0 x1 x2 h=>
dF 7 38 x0 h fun t69 wL=>
iQ W R N E P x1 x2 t69 wL
theorem aI{x0 x1 x2:AV}{h:AH}{M:WK}{R:RK}(hp:gT (fun id=>M id\/h.next<=id) (aH Pg [.tmp 6] R) (aH Pg [.tmp 6] R) (fun _ _ _=>False) (fun v h=>R (.bV v) h) x0 x1 x2 h):ay Pg 22 [x0,x1,x2] h M R:=
 fin (n:=86) (pl:=[(14,⟨[(none,(fr 0 7)),(some (6,false),(fr 7 7)),(none,(fr 14 1))],false,[],[]⟩),(16,⟨[(none,(fr 0 4)),(some (3,true),(fr 4 4)),(some (7,false),(fr 8 4)),(some (3,true),(fr 12 1)),(none,(fr 13 1))],false,[],[]⟩),(24,⟨[(none,(fr 0 11))],false,[],[]⟩)]) (rs:=[.tmp 6]) (L:=rs) (fun c=>(a3 gT 0 1 2 c)) Tryz.mixed Tryz.func22 (fun c=>
(sq (a3 gT 0 1 2 c)
(sn
(sq (a3 fp 1 2 3 c)
(sn
(sn
(sn
(sn
(sn
(sl (a0 n1 c))
(sq (a2 bn 3 8 c)
(bk 2 (lp [3,8,10] rs [(2,[])] (a3 a_ 3 8 10 c) cn (fun i vs h=>if i=2 then n1 c.W c.R c.N c.E c.P h else c.E i vs h) (.b (.t .o)) fun c=>
(sn
(sn
(sm (a3 n2 3 8 10 c))
(bk 3 (sq (a3 aP 3 8 10 c)
(bk 4 (lp [3,8,10,11] rs [(4,[3,8,10]),(3,[3,8,10]),(2,[])] (a4 n9 3 8 10 11 c) fI (fun i vs h=>if i=4 then n2 c.W c.R c.N c.E c.P (vs.getD 0 ab) (vs.getD 1 ab) (vs.getD 2 ab) h else if i=3 then n2 c.W c.R c.N c.E c.P (vs.getD 0 ab) (vs.getD 1 ab) (vs.getD 2 ab) h else c.E i vs h) (.b (.b (.t .o))) fun c=>
(sn
(sn
(sm (a4 n3 3 8 10 11 c))
(bk 5 (sq (a4 n6 3 8 10 11 c)
(cd (a5 n5 3 8 10 11 85 c) (sl (a0 n4 c)) tr))))
(sq (a4 n8 3 8 10 11 c)
(cd (a5 n7 3 8 10 11 72 c) tr tr))))))))
(sq (a3 aQ 3 8 10 c)
(cd (a4 aU 3 8 10 67 c) tr tr)))))))
(sn
(cd (a3 aZ 3 8 64 c) (sl (a0 bj c)) tr)
(gr (gn (a3 bE 2 3 8 c) (gx (a4 bC 2 3 8 54 c) (gx (a5 bz 2 3 8 54 58 c) (gx (a5 bu 3 8 54 58 62 c) (gl (a4 bg 3 8 54 63 c)))))))))
(sq (a4 cV 1 2 3 8 c)
(bk 0 (lp [1,2,3,8,9] rs [(0,[2,3,8])] (a5 cN 1 2 3 8 9 c) rY (fun i vs h=>if i=0 then bE c.W c.R c.N c.E c.P (vs.getD 0 ab) (vs.getD 1 ab) (vs.getD 2 ab) h else c.E i vs h) (.b (.t .o)) fun c=>
(sn
(sn
(sm (a5 bG 1 2 3 8 9 c))
(bk 1 (sn
(cd (a6 bZ 1 2 3 8 9 50 c) (sl (a0 bD c)) tr)
(gr (gn (a5 bW 1 2 3 8 9 c) (gx (a6 bT 1 2 3 8 9 42 c) (gl (a7 bY 1 2 3 8 9 42 49 c))))))))
(sq (a5 cq 1 2 3 8 9 c)
(cd (a6 cj 1 2 3 8 9 33 c) tr tr)))))))
(sq (a4 eh 1 2 3 8 c)
(cd (a5 dH 1 2 3 8 30 c) (sl (a0 cX c)) tr)))
(sq (a4 fq 1 2 3 8 c)
(cd (a5 gh 1 2 3 8 20 c) (sq (a3 fM 1 2 3 c)
(sq (a4 fQ 1 2 3 8 c)
(cd (a5 fc 1 2 3 8 25 c) (sl (a0 ft c)) tr))) tr))))
(sq (a3 iQ 1 2 3 c)
(sq (a4 gv 1 2 3 7 c)
(cd (a5 gI 1 2 3 7 16 c) (sl (a1 gg 7 c)) tr)))))) hp
attribute [simp] n1 n2 n3 n4 n5 n6 n7 n8 aP aU aQ bn bj aZ bg bu bz bC bE bG bD bZ bY bT bW cj cq cV cX dH eh ft fc fQ fM gh fq fp gg gI gv iQ gT
end dM
namespace HW
abbrev rs:List Nat:=[2]
def n1:N0:=fun _ R _ _ _ h=>
R [(.sc (.int .i64 0))] h
def n2:N1:=fun W R _ _ P x1 h=>
ag (some 1) x1 fun t1=>
ai (some false) (some 1) t1 h fun t2 _=>
aC Pg W 41 [t2] h (fun t4 h5=>
R [t4] h5) P
def n3:N2:=fun W R N E P x1 x5 h=>
aE x5 (
n2 W R N E P x1 h) (
n1 W R N E P h)
def n4:N1:=fun W R N E P x1 h=>
ag (some 0) x1 fun t6=>
ai (some false) (some 1) t6 h fun t7 _=>
aa Pg .eql 3 true t7 (.sc (.int .i64 1)) fun t9=>
n3 W R N E P x1 t9 h
def n5:N1:=fun W R N E P x0 h=>
dF 7 38 x0 h fun t10 mq=>
n4 W R N E P t10 mq
theorem aI{x0:AV}{h:AH}{M:WK}{R:RK}(hp:n5 (fun id=>M id\/h.next<=id) (aH Pg [.tmp 2] R) (aH Pg [.tmp 2] R) (fun _ _ _=>False) (fun v h=>R (.bV v) h) x0 h):ay Pg 23 [x0] h M R:=
 fin (n:=9) (pl:=[]) (rs:=[.tmp 2]) (L:=rs) (fun c=>(a1 n5 0 c)) Tryz.mixed Tryz.func23 (fun c=>
(sq (a1 n5 0 c)
(sn
(sl (a0 n1 c))
(sq (a1 n4 1 c)
(cd (a2 n3 1 5 c) (sl (a1 n2 1 c)) tr))))) hp
attribute [simp] n1 n2 n3 n4 n5
end HW
namespace Zd
abbrev rs:List Nat:=[2]
def n1:N0:=fun _ R _ _ _ h=>
R [(.sc (.int .i64 0))] h
def n2:N0:=fun _ R _ _ _ h=>
R [(.sc (.int .i64 1))] h
def n3:N0:=fun _ R _ _ _ h=>
R [(.sc (.int .i64 2))] h
def n4:N0:=fun _ R _ _ _ h=>
R [(.sc (.int .i64 3))] h
def n5:N1:=fun W R N E P dW h=>
aE dW (
n4 W R N E P h) (
n1 W R N E P h)
def n6:N2:=fun W R N E P x3 dW h=>
aE dW (
n5 W R N E P dW h) (
aa Pg .eql 9 true x3 (.sc (.string ⟨#[99,115,119,97,112]⟩)) fun t1=>
n5 W R N E P t1 h)
def n7:N1:=fun W R N E P x3 h=>
aa Pg .eql 9 true x3 (.sc (.string ⟨#[99,99,122]⟩)) fun t2=>
n6 W R N E P x3 t2 h
def n8:N2:=fun W R N E P x3 dW h=>
aE dW (
n5 W R N E P dW h) (
n7 W R N E P x3 h)
def n9:N1:=fun W R N E P x3 h=>
aa Pg .eql 9 true x3 (.sc (.string ⟨#[99,99,120]⟩)) fun t3=>
n8 W R N E P x3 t3 h
def aP:N2:=fun W R N E P x3 il h=>
aE il (
n3 W R N E P h) (
n9 W R N E P x3 h)
def aU:N2:=fun W R N E P x3 il h=>
aE il (
aP W R N E P x3 il h) (
aa Pg .eql 9 true x3 (.sc (.string ⟨#[105,115,119,97,112,100,103]⟩)) fun t4=>
aP W R N E P x3 t4 h)
def aQ:N1:=fun W R N E P x3 h=>
aa Pg .eql 9 true x3 (.sc (.string ⟨#[105,115,119,97,112]⟩)) fun t5=>
aU W R N E P x3 t5 h
def a_:N2:=fun W R N E P x3 il h=>
aE il (
aP W R N E P x3 il h) (
aQ W R N E P x3 h)
def bn:N1:=fun W R N E P x3 h=>
aa Pg .eql 9 true x3 (.sc (.string ⟨#[115,119,97,112]⟩)) fun t6=>
a_ W R N E P x3 t6 h
def bj:N2:=fun W R N E P x3 il h=>
aE il (
aP W R N E P x3 il h) (
bn W R N E P x3 h)
def aZ:N1:=fun W R N E P x3 h=>
aa Pg .eql 9 true x3 (.sc (.string ⟨#[99,115,100,103]⟩)) fun t7=>
bj W R N E P x3 t7 h
def bg:N2:=fun W R N E P x3 il h=>
aE il (
aP W R N E P x3 il h) (
aZ W R N E P x3 h)
def bu:N1:=fun W R N E P x3 h=>
aa Pg .eql 9 true x3 (.sc (.string ⟨#[99,115]⟩)) fun t8=>
bg W R N E P x3 t8 h
def bz:N2:=fun W R N E P x3 il h=>
aE il (
aP W R N E P x3 il h) (
bu W R N E P x3 h)
def bC:N1:=fun W R N E P x3 h=>
aa Pg .eql 9 true x3 (.sc (.string ⟨#[99,104]⟩)) fun t9=>
bz W R N E P x3 t9 h
def bE:N2:=fun W R N E P x3 il h=>
aE il (
aP W R N E P x3 il h) (
bC W R N E P x3 h)
def bG:N1:=fun W R N E P x3 h=>
aa Pg .eql 9 true x3 (.sc (.string ⟨#[99,122]⟩)) fun t10=>
bE W R N E P x3 t10 h
def bD:N2:=fun W R N E P x3 il h=>
aE il (
aP W R N E P x3 il h) (
bG W R N E P x3 h)
def bZ:N1:=fun W R N E P x3 h=>
aa Pg .eql 9 true x3 (.sc (.string ⟨#[99,121]⟩)) fun t11=>
bD W R N E P x3 t11 h
def bY:N2:=fun W R N E P x3 il h=>
aE il (
aP W R N E P x3 il h) (
bZ W R N E P x3 h)
def bT:N1:=fun W R N E P x3 h=>
aa Pg .eql 9 true x3 (.sc (.string ⟨#[99,120]⟩)) fun t12=>
bY W R N E P x3 t12 h
def bW:N2:=fun W R N E P x3 x4 h=>
aE x4 (
n2 W R N E P h) (
bT W R N E P x3 h)
def cj:N2:=fun W R N E P x3 x4 h=>
aE x4 (
bW W R N E P x3 x4 h) (
aa Pg .eql 9 true x3 (.sc (.string ⟨#[119,100,103]⟩)) fun t13=>
bW W R N E P x3 t13 h)
def cq:N1:=fun W R N E P x3 h=>
aa Pg .eql 9 true x3 (.sc (.string ⟨#[119]⟩)) fun t14=>
cj W R N E P x3 t14 h
def cN:N2:=fun W R N E P x3 x4 h=>
aE x4 (
bW W R N E P x3 x4 h) (
cq W R N E P x3 h)
def cV:N1:=fun W R N E P x3 h=>
aa Pg .eql 9 true x3 (.sc (.string ⟨#[118,100,103]⟩)) fun t15=>
cN W R N E P x3 t15 h
def cX:N2:=fun W R N E P x3 x4 h=>
aE x4 (
bW W R N E P x3 x4 h) (
cV W R N E P x3 h)
def dH:N1:=fun W R N E P x3 h=>
aa Pg .eql 9 true x3 (.sc (.string ⟨#[118]⟩)) fun t16=>
cX W R N E P x3 t16 h
def eh:N2:=fun W R N E P x3 x4 h=>
aE x4 (
bW W R N E P x3 x4 h) (
dH W R N E P x3 h)
def ft:N1:=fun W R N E P x3 h=>
aa Pg .eql 9 true x3 (.sc (.string ⟨#[116,100,103]⟩)) fun t17=>
eh W R N E P x3 t17 h
def fc:N2:=fun W R N E P x3 x4 h=>
aE x4 (
bW W R N E P x3 x4 h) (
ft W R N E P x3 h)
def fQ:N1:=fun W R N E P x3 h=>
aa Pg .eql 9 true x3 (.sc (.string ⟨#[116]⟩)) fun t18=>
fc W R N E P x3 t18 h
def fM:N2:=fun W R N E P x3 x4 h=>
aE x4 (
bW W R N E P x3 x4 h) (
fQ W R N E P x3 h)
def gh:N1:=fun W R N E P x3 h=>
aa Pg .eql 9 true x3 (.sc (.string ⟨#[115,100,103]⟩)) fun t19=>
fM W R N E P x3 t19 h
def fq:N2:=fun W R N E P x3 x4 h=>
aE x4 (
bW W R N E P x3 x4 h) (
gh W R N E P x3 h)
def fp:N1:=fun W R N E P x3 h=>
aa Pg .eql 9 true x3 (.sc (.string ⟨#[115]⟩)) fun t20=>
fq W R N E P x3 t20 h
def gg:N2:=fun W R N E P x3 x4 h=>
aE x4 (
bW W R N E P x3 x4 h) (
fp W R N E P x3 h)
def gI:N1:=fun W R N E P x3 h=>
aa Pg .eql 9 true x3 (.sc (.string ⟨#[104]⟩)) fun t21=>
gg W R N E P x3 t21 h
def gv:N2:=fun W R N E P x3 x4 h=>
aE x4 (
bW W R N E P x3 x4 h) (
gI W R N E P x3 h)
def iQ:N1:=fun W R N E P x3 h=>
aa Pg .eql 9 true x3 (.sc (.string ⟨#[122]⟩)) fun t22=>
gv W R N E P x3 t22 h
def gT:N2:=fun W R N E P x3 x4 h=>
aE x4 (
bW W R N E P x3 x4 h) (
iQ W R N E P x3 h)
def oS:N1:=fun W R N E P x3 h=>
aa Pg .eql 9 true x3 (.sc (.string ⟨#[121]⟩)) fun t23=>
gT W R N E P x3 t23 h
def nQ:N2:=fun W R N E P x3 x4 h=>
aE x4 (
bW W R N E P x3 x4 h) (
oS W R N E P x3 h)
def jB:N1:=fun W R N E P x3 h=>
aa Pg .eql 9 true x3 (.sc (.string ⟨#[120]⟩)) fun t24=>
nQ W R N E P x3 t24 h
def sE:N2:=fun W R N E P x3 x4 h=>
aE x4 (
bW W R N E P x3 x4 h) (
jB W R N E P x3 h)
def vf:N1:=fun W R N E P x3 h=>
aa Pg .eql 9 true x3 (.sc (.string ⟨#[105]⟩)) fun t25=>
sE W R N E P x3 t25 h
def sD:N1:=fun W R N E P x0 h=>
vf W R N E P x0 h
def pZ:N1:=fun W R N E P x0 h=>
sD W R N E P x0 h
theorem aI{x0:AV}{h:AH}{M:WK}{R:RK}(hp:pZ (fun id=>M id\/h.next<=id) (aH Pg [.tmp 2] R) (aH Pg [.tmp 2] R) (fun _ _ _=>False) (fun v h=>R (.bV v) h) x0 h):ay Pg 40 [x0] h M R:=
 fin (n:=32) (pl:=[]) (rs:=[.tmp 2]) (L:=rs) (fun c=>(a1 pZ 0 c)) Tryz.mixed Tryz.func40 (fun c=>
(sq (a1 pZ 0 c)
(sn
(sl (a0 n1 c))
(sq (a1 sD 0 c)
(bk 0 (sn
(cd (a2 bW 3 4 c) (sl (a0 n2 c)) (sn
(cd (a2 aP 3 18 c) (sl (a0 n3 c)) (sn
(cd (a1 n5 28 c) (sl (a0 n4 c)) tr)
(sq (a1 n9 3 c)
(cd (a2 n8 3 28 c) tr (sq (a1 n7 3 c)
(cd (a2 n6 3 28 c) tr tr))))))
(sq (a1 bT 3 c)
(cd (a2 bY 3 18 c) tr (sq (a1 bZ 3 c)
(cd (a2 bD 3 18 c) tr (sq (a1 bG 3 c)
(cd (a2 bE 3 18 c) tr (sq (a1 bC 3 c)
(cd (a2 bz 3 18 c) tr (sq (a1 bu 3 c)
(cd (a2 bg 3 18 c) tr (sq (a1 aZ 3 c)
(cd (a2 bj 3 18 c) tr (sq (a1 bn 3 c)
(cd (a2 a_ 3 18 c) tr (sq (a1 aQ 3 c)
(cd (a2 aU 3 18 c) tr tr))))))))))))))))))
(sq (a1 vf 3 c)
(cd (a2 sE 3 4 c) tr (sq (a1 jB 3 c)
(cd (a2 nQ 3 4 c) tr (sq (a1 oS 3 c)
(cd (a2 gT 3 4 c) tr (sq (a1 iQ 3 c)
(cd (a2 gv 3 4 c) tr (sq (a1 gI 3 c)
(cd (a2 gg 3 4 c) tr (sq (a1 fp 3 c)
(cd (a2 fq 3 4 c) tr (sq (a1 gh 3 c)
(cd (a2 fM 3 4 c) tr (sq (a1 fQ 3 c)
(cd (a2 fc 3 4 c) tr (sq (a1 ft 3 c)
(cd (a2 eh 3 4 c) tr (sq (a1 dH 3 c)
(cd (a2 cX 3 4 c) tr (sq (a1 cV 3 c)
(cd (a2 cN 3 4 c) tr (sq (a1 cq 3 c)
(cd (a2 cj 3 4 c) tr tr)))))))))))))))))))))))))))))) hp
attribute [simp] n1 n2 n3 n4 n5 n6 n7 n8 n9 aP aU aQ a_ bn bj aZ bg bu bz bC bE bG bD bZ bY bT bW cj cq cN cV cX dH eh ft fc fQ fM gh fq fp gg gI gv iQ gT oS nQ jB sE vf sD pZ
end Zd
namespace lx
abbrev rs:List Nat:=[4]
def n1:N0:=fun _ R _ _ _ h=>
R [(.sc (.int .i64 0))] h
def n2:N0:=fun _ R _ _ _ h=>
R [(.sc (.int .i64 120))] h
def n3:N1:=fun W R N E P Ah h=>
aE Ah (
n2 W R N E P h) (
n1 W R N E P h)
def n4:N2:=fun W R N E P cA oe h=>
aJ cA (.sc (.bool true)) oe fun t1=>
n3 W R N E P t1 h
def n5:N3:=fun W R N E P cA jx pT h=>
bd false cA (
aJ jx pT (.sc (.bool false)) fun t2=>
n4 W R N E P cA t2 h) (
n4 W R N E P cA ab h)
def n6:N3:=fun W R N E P x2 cA jx h=>
bd true jx (
ag (some 3) x2 fun t3=>
ai (some false) (some 1) t3 h fun t4 _=>
aa Pg .neq 3 true t4 (.sc (.int .i64 0)) fun t6=>
n5 W R N E P cA jx t6 h) (
n5 W R N E P cA jx ab h)
def n7:N2:=fun W R N E P x2 cA h=>
bd false cA (
ag (some 0) x2 fun t7=>
ai (some false) (some 1) t7 h fun t8 _=>
aa Pg .neq 3 true t8 (.sc (.int .i64 2)) fun t10=>
n6 W R N E P x2 cA t10 h) (
n6 W R N E P x2 cA ab h)
def n8:N3:=fun W R N E P x2 lf cL h=>
aJ lf cL (.sc (.bool false)) fun t11=>
n7 W R N E P x2 t11 h
def n9:N2:=fun W R N E P x2 lf h=>
bd true lf (
ag (some 1) x2 fun t12=>
ai (some false) (some 1) t12 h fun t13 _=>
aa Pg .neq 9 true t13 (.sc (.string ⟨#[]⟩)) fun t15=>
n8 W R N E P x2 lf t15 h) (
n8 W R N E P x2 lf ab h)
def aP:N1:=fun W R N E P x2 h=>
ag (some 0) x2 fun t16=>
ai (some false) (some 1) t16 h fun t17 _=>
aa Pg .neq 3 true t17 (.sc (.int .i64 1)) fun t19=>
n9 W R N E P x2 t19 h
def aU:N0:=fun _ R _ _ _ h=>
R [(.sc (.int .i64 120))] h
def aQ:N2:=fun W R N E P x2 rz h=>
aE rz (
aU W R N E P h) (
aP W R N E P x2 h)
def a_:N3:=fun W R N E P x2 dW eA h=>
aJ dW eA (.sc (.bool false)) fun t20=>
aQ W R N E P x2 t20 h
def bn:N4:=fun W R N E P x2 dW eK fV h=>
bd true dW (
aJ eK (.sc (.bool true)) fV fun t21=>
a_ W R N E P x2 dW t21 h) (
a_ W R N E P x2 dW ab h)
def bj:N3:=fun W R N E P x2 dW eK h=>
bd false eK (
ag (some 6) x2 fun t22=>
ai (some false) (some 1) t22 h fun t23 _=>
ag (some 5) x2 fun t25=>
ai (some false) (some 1) t25 h fun t26 _=>
aa Pg .andNot 36 false t23 t26 fun t28=>
aa Pg .neq 36 true t28 (.sc (.int .u64 0)) fun t29=>
bn W R N E P x2 dW eK t29 h) (
bn W R N E P x2 dW eK ab h)
def aZ:N4:=fun W R N E P x2 dW eB fD h=>
bd true dW (
aJ eB (.sc (.bool true)) fD fun t30=>
bj W R N E P x2 dW t30 h) (
bj W R N E P x2 dW ab h)
def bg:N4:=fun W R N E P x1 x2 dW eB h=>
bd false eB (
ag (some 5) x2 fun t31=>
ai (some false) (some 1) t31 h fun t32 _=>
aC Pg W 72 [t32,x1] h (fun t34 rW=>
aZ W R N E P x2 dW eB t34 rW) P) (
aZ W R N E P x2 dW eB ab h)
def bu:N3:=fun W R N E P x1 x2 dW h=>
bd true dW (
ag (some 5) x2 fun t36=>
ai (some false) (some 1) t36 h fun t37 _=>
aa Pg .eql 36 true t37 (.sc (.int .u64 0)) fun t39=>
bg W R N E P x1 x2 dW t39 h) (
bg W R N E P x1 x2 dW ab h)
def bz:N2:=fun W R N E P x1 x2 h=>
ag (some 4) x2 fun t40=>
ai (some false) (some 1) t40 h fun t41 _=>
bu W R N E P x1 x2 t41 h
def bC:N0:=fun _ R _ _ _ h=>
R [(.sc (.int .i64 120))] h
def bE:N3:=fun W R N E P x1 x2 lV h=>
aE lV (
bC W R N E P h) (
bz W R N E P x1 x2 h)
def bG:N4:=fun W R N E P x1 x2 cR oP h=>
aJ cR oP (.sc (.bool false)) fun t43=>
bE W R N E P x1 x2 t43 h
def bD:N5:=fun W R N E P x1 x2 cR lW jQ h=>
bd true cR (
aJ lW (.sc (.bool true)) jQ fun t44=>
bG W R N E P x1 x2 cR t44 h) (
bG W R N E P x1 x2 cR ab h)
def bZ:N4:=fun W R N E P x1 x2 cR lW h=>
bd false lW (
ag (some 6) x2 fun t45=>
ai (some false) (some 1) t45 h fun t46 _=>
aa Pg .neq 36 true t46 (.sc (.int .u64 0)) fun t48=>
bD W R N E P x1 x2 cR lW t48 h) (
bD W R N E P x1 x2 cR lW ab h)
def bY:N3:=fun W R N E P x1 x2 cR h=>
bd true cR (
ag (some 5) x2 fun t49=>
ai (some false) (some 1) t49 h fun t50 _=>
aa Pg .neq 36 true t50 (.sc (.int .u64 0)) fun t52=>
bZ W R N E P x1 x2 cR t52 h) (
bZ W R N E P x1 x2 cR ab h)
def bT:N2:=fun W R N E P x1 x2 h=>
ag (some 4) x2 fun t53=>
ai (some false) (some 1) t53 h fun t54 _=>
e_ .not t54 fun t56=>
bY W R N E P x1 x2 t56 h
def bW:N0:=fun _ R _ _ _ h=>
R [(.sc (.int .i64 120))] h
def cj:N3:=fun W R N E P x1 x2 aS h=>
aE aS (
bW W R N E P h) (
bT W R N E P x1 x2 h)
def cq:N4:=fun W R N E P x1 x2 x8 aA h=>
aJ x8 (.sc (.bool true)) aA fun t57=>
cj W R N E P x1 x2 t57 h
def cN:N3:=fun W R N E P x1 x2 x8 h=>
bd false x8 (
ag (some 0) x2 fun t58=>
ai (some false) (some 1) t58 h fun t59 _=>
aa Pg .gtr 3 true t59 (.sc (.int .i64 3)) fun t61=>
cq W R N E P x1 x2 x8 t61 h) (
cq W R N E P x1 x2 x8 ab h)
def cV:N2:=fun W R N E P x1 x2 h=>
ag (some 0) x2 fun t62=>
ai (some false) (some 1) t62 h fun t63 _=>
aa Pg .lss 3 true t63 (.sc (.int .i64 1)) fun t65=>
cN W R N E P x1 x2 t65 h
def cX:N2:=fun W R N E P x0 x1 h=>
dF 7 38 x0 h fun t66 Ll=>
cV W R N E P x1 t66 Ll
theorem aI{x0 x1:AV}{h:AH}{M:WK}{R:RK}(hp:cX (fun id=>M id\/h.next<=id) (aH Pg [.tmp 4] R) (aH Pg [.tmp 4] R) (fun _ _ _=>False) (fun v h=>R (.bV v) h) x0 x1 h):ay Pg 39 [x0,x1] h M R:=
 fin (n:=65) (pl:=[(1,⟨[(none,(fr 0 4)),(some (3,false),(fr 4 3)),(none,(fr 7 1))],false,[],[]⟩),(3,⟨[(none,(fr 0 4)),(some (3,true),(fr 4 4)),(some (7,false),(fr 8 3)),(some (3,true),(fr 11 1)),(none,(fr 12 1))],false,[],[]⟩),(5,⟨[(none,(fr 0 3)),(some (2,true),(fr 3 4)),(some (6,false),(fr 7 4)),(some (2,true),(fr 11 2)),(some (12,false),(fr 13 6)),(some (2,true),(fr 19 1)),(none,(fr 20 1))],false,[],[]⟩),(7,⟨[(none,(fr 0 4)),(some (3,true),(fr 4 3)),(none,(fr 7 2)),(some (8,false),(fr 9 4)),(some (12,true),(fr 13 3)),(some (8,false),(fr 16 1)),(none,(fr 17 1))],false,[],[]⟩)]) (rs:=[.tmp 4]) (L:=rs) (fun c=>(a2 cX 0 1 c)) Tryz.mixed Tryz.func39 (fun c=>
(sq (a2 cX 0 1 c)
(sn
(sn
(sn
(sn
(sl (a0 n1 c))
(sn
(cd (a1 n3 64 c) (sl (a0 n2 c)) tr)
(gr (gn (a1 aP 2 c) (gx (a2 n9 2 50 c) (gn (a3 n8 2 50 53 c) (gx (a2 n7 2 55 c) (gx (a3 n6 2 55 59 c) (gx (a3 n5 55 59 62 c) (gl (a2 n4 55 63 c)))))))))))
(sn
(cd (a2 aQ 2 46 c) (sl (a0 aU c)) tr)
(gr (gn (a2 bz 1 2 c) (gx (a3 bu 1 2 28 c) (gx (a4 bg 1 2 28 32 c) (gx (a4 aZ 2 28 32 36 c) (gx (a3 bj 2 28 38 c) (gx (a4 bn 2 28 38 44 c) (gl (a3 a_ 2 28 45 c)))))))))))
(sn
(cd (a3 bE 1 2 25 c) (sl (a0 bC c)) tr)
(gr (gn (a2 bT 1 2 c) (gx (a3 bY 1 2 16 c) (gx (a4 bZ 1 2 16 20 c) (gx (a5 bD 1 2 16 20 23 c) (gl (a4 bG 1 2 16 24 c)))))))))
(sn
(cd (a3 cj 1 2 12 c) (sl (a0 bW c)) tr)
(gr (gn (a2 cV 1 2 c) (gx (a3 cN 1 2 8 c) (gl (a4 cq 1 2 8 11 c))))))))) hp
attribute [simp] n1 n2 n3 n4 n5 n6 n7 n8 n9 aP aU aQ a_ bn bj aZ bg bu bz bC bE bG bD bZ bY bT bW cj cq cN cV cX
end lx
namespace Zc
abbrev rs:List Nat:=[2]
def n1:N0:=fun _ R _ _ _ h=>
R [(.sc (.int .i64 0))] h
def n2:N0:=fun _ R _ _ _ h=>
R [(.sc (.int .i64 1))] h
def n3:N1:=fun W R N E P x4 h=>
aE x4 (
n2 W R N E P h) (
n1 W R N E P h)
def n4:N2:=fun W R N E P x3 x4 h=>
aE x4 (
n3 W R N E P x4 h) (
aa Pg .eql 9 true x3 (.sc (.string ⟨#[99,104]⟩)) fun t1=>
n3 W R N E P t1 h)
def n5:N1:=fun W R N E P x3 h=>
aa Pg .eql 9 true x3 (.sc (.string ⟨#[118,100,103]⟩)) fun t2=>
n4 W R N E P x3 t2 h
def n6:N2:=fun W R N E P x3 x4 h=>
aE x4 (
n3 W R N E P x4 h) (
n5 W R N E P x3 h)
def n7:N1:=fun W R N E P x3 h=>
aa Pg .eql 9 true x3 (.sc (.string ⟨#[118]⟩)) fun t3=>
n6 W R N E P x3 t3 h
def n8:N2:=fun W R N E P x3 x4 h=>
aE x4 (
n3 W R N E P x4 h) (
n7 W R N E P x3 h)
def n9:N1:=fun W R N E P x3 h=>
aa Pg .eql 9 true x3 (.sc (.string ⟨#[104]⟩)) fun t4=>
n8 W R N E P x3 t4 h
def aP:N1:=fun W R N E P x0 h=>
n9 W R N E P x0 h
def aU:N1:=fun W R N E P x0 h=>
aP W R N E P x0 h
theorem aI{x0:AV}{h:AH}{M:WK}{R:RK}(hp:aU (fun id=>M id\/h.next<=id) (aH Pg [.tmp 2] R) (aH Pg [.tmp 2] R) (fun _ _ _=>False) (fun v h=>R (.bV v) h) x0 h):ay Pg 41 [x0] h M R:=
 fin (n:=9) (pl:=[]) (rs:=[.tmp 2]) (L:=rs) (fun c=>(a1 aU 0 c)) Tryz.mixed Tryz.func41 (fun c=>
(sq (a1 aU 0 c)
(sn
(sl (a0 n1 c))
(sq (a1 aP 0 c)
(bk 0 (sn
(cd (a1 n3 4 c) (sl (a0 n2 c)) tr)
(sq (a1 n9 3 c)
(cd (a2 n8 3 4 c) tr (sq (a1 n7 3 c)
(cd (a2 n6 3 4 c) tr (sq (a1 n5 3 c)
(cd (a2 n4 3 4 c) tr tr)))))))))))) hp
attribute [simp] n1 n2 n3 n4 n5 n6 n7 n8 n9 aP aU
end Zc
namespace Y3
abbrev rs:List Nat:=[4]
def n1:N1:=fun _ R _ _ _ x4 h=>
R [x4] h
def n2:N2:=fun W R N E P x7 aS h=>
aJ x7 aS (.sc (.bool false)) fun t1=>
n1 W R N E P t1 h
def n3:N3:=fun W R N E P x0 x1 x7 h=>
bd true x7 (
l8 (some .u64) x1 fun t2=>
aa Pg .shr 36 false x0 t2 fun t3=>
aa Pg .neq 36 true t3 (.sc (.int .u64 0)) fun t4=>
n2 W R N E P x7 t4 h) (
n2 W R N E P x7 ab h)
def n4:N2:=fun W R N E P x0 x1 h=>
aa Pg .lss 3 true x1 (.sc (.int .i64 64)) fun t5=>
n3 W R N E P x0 x1 t5 h
def n5:N2:=fun W R N E P x0 x1 h=>
n4 W R N E P x0 x1 h
theorem aI{x0 x1:AV}{h:AH}{M:WK}{R:RK}(hp:n5 (fun id=>M id\/h.next<=id) (aH Pg [.tmp 4] R) (aH Pg [.tmp 4] R) (fun _ _ _=>False) (fun v h=>R (.bV v) h) x0 x1 h):ay Pg 72 [x0,x1] h M R:=
 fin (n:=14) (pl:=[(1,⟨[(none,(fr 0 3)),(some (2,true),(fr 3 5)),(none,(fr 8 2))],false,[],[]⟩)]) (rs:=[.tmp 4]) (L:=rs) (fun c=>(a2 n5 0 1 c)) Tryz.mixed Tryz.func72 (fun c=>
(sq (a2 n5 0 1 c)
(sn
(sm (a1 n1 4 c))
(gr (gn (a2 n4 0 1 c) (gx (a3 n3 0 1 7 c) (gl (a2 n2 7 12 c)))))))) hp
attribute [simp] n1 n2 n3 n4 n5
end Y3
end Go.Proofs.YtjehibknlmehmaaGreatDoor
