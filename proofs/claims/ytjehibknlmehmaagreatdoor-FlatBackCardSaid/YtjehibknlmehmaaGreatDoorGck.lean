/- Bodies of the circuit checks; printed. No condition. -/
import Derived.Test.YtjehibknlmehmaaGreatDoorGlk
set_option maxRecDepth 100000
namespace Go.Proofs.YtjehibknlmehmaaGreatDoor
open Go.Ab
namespace lB
abbrev rs:List Nat:=[2,3]
def n1:N0:=fun _ R _ _ _ h=>
R [(.sc (.int .i64 0)),(.sc (.int .i64 0))] h
def n2:N5:=fun _ _ N _ _ x1 x4 iI eU fp h=>
ag Pg .add 3 true fp (.sc (.int .i64 1)) fun t1=>
N [x1,x4,iI,eU,t1] h
def n3:N1:=fun _ R _ _ _ x5 h=>
R [x5,(.sc (.int .i64 116))] h
def n4:N7:=fun W R N E P x1 x4 x5 iI eU fp tl h=>
aM tl (
n3 W R N E P x5 h) (
n2 W R N E P x1 x4 iI eU fp h)
def n5:N6:=fun W R N E P x1 x4 x5 iI eU fp h=>
ag Pg .gtr 3 true x4 (.sc (.int .i64 36)) fun t2=>
n4 W R N E P x1 x4 x5 iI eU fp t2 h
def n6:N7:=fun W R N E P x1 x4 x5 x6 iI eU fp h=>
al (some true) (some 7) x6 h fun t3 _=>
aC Pg W 28 [t3] h (fun t5 h6=>
ag Pg .add 3 false x4 t5 fun t7=>
n5 W R N E P x1 t7 x5 iI eU fp h6) P
def n7:N2:=fun _ R _ _ _ x5 x7 h=>
R [x5,x7] h
def n8:N9:=fun W R N E P x1 x4 x5 x6 x7 iI eU fp AC h=>
aM AC (
n7 W R N E P x5 x7 h) (
n6 W R N E P x1 x4 x5 x6 iI eU fp h)
def n9:N8:=fun W R N E P x1 x4 x5 x6 x7 iI eU fp h=>
ag Pg .neq 28 true x7 (.sc (.int .i64 0)) fun t8=>
n8 W R N E P x1 x4 x5 x6 x7 iI eU fp t8 h
def aZ:N7:=fun W R N E P x1 x4 x5 x6 iI eU fp h=>
al (some true) (some 3) x1 h fun t9 _=>
al (some true) (some 7) x6 h fun t11 _=>
aC Pg W 27 [t9,t11] h (fun t13 vP=>
n9 W R N E P x1 x4 x5 x6 t13 iI eU fp vP) P
def bc:N5:=fun W R N E P x1 x4 iI eU fp h=>
cj (some (7,none)) iI fp fun t15=>
al (some true) (some 7) t15 h fun t16 _=>
bn (some [.int .i64 0,.string ⟨#[]⟩,.slice none 0 0,.int .i64 0,.bool false,.int .u64 0,.int .u64 0]) 7 38 h fun t18 vK=>
aE (some 7) t18 t16 vK W fun vJ=>
aZ W R N E P x1 x4 fp t18 iI eU fp vJ
def ba:N6:=fun W R N E P x1 x4 iI eU fp vV h=>
aM vV (
bc W R N E P x1 x4 iI eU fp h) (
E 0 [] h)
def br:N5:=fun W R N E P x1 x4 iI eU fp h=>
ag Pg .lss 3 false fp eU fun t21=>
ba W R N E P x1 x4 iI eU fp t21 h
def cT:GK:=fun W R N E P N' vs h=>br W R N' (fun(i:Nat) (vs:List AV) (h:AH)=>if i=0 then n1 W R N E P h else E i vs h) P (vs.getD 0 aa) (vs.getD 1 aa) (vs.getD 2 aa) (vs.getD 3 aa) (vs.getD 4 aa) h
def bF:N5:=fun W R N E P x1 x4 iI eU fp h=>
dT (cT W R N E P) [x1,x4,iI,eU,fp] h
def bM:N2:=fun W R N E P x1 x4 h=>
ah (some 2) x1 fun t22=>
al (some false) (some 1) t22 h fun t23 _=>
(a_ t23=false)/\bO t23 fun t25=>
bF W R N E P x1 x4 t23 t25 (.sc (.int .i64 0)) h
def bP:N1:=fun W R N E P x1 h=>
bM W R N E P x1 (.sc (.int .i64 0)) h
def bN:N0:=fun _ R _ _ _ h=>
R [(.sc (.int .i64 0)),(.sc (.int .i64 115))] h
def bW:N2:=fun W R N E P x1 ic h=>
aM ic (
bN W R N E P h) (
bP W R N E P x1 h)
def bT:N1:=fun W R N E P x1 h=>
ah (some 2) x1 fun t26=>
al (some false) (some 1) t26 h fun t27 _=>
(a_ t27=false)/\bO t27 fun t29=>
ag Pg .gtr 3 true t29 (.sc (.int .i64 4096)) fun t30=>
bW W R N E P x1 t30 h
def bX:N0:=fun _ R _ _ _ h=>
R [(.sc (.int .i64 0)),(.sc (.int .i64 2))] h
def cl:N2:=fun W R N E P x1 pR h=>
aM pR (
bX W R N E P h) (
bT W R N E P x1 h)
def cq:N3:=fun W R N E P x1 lE ve h=>
aT lE (.sc (.bool true)) ve fun t31=>
cl W R N E P x1 t31 h
def cL:N2:=fun W R N E P x1 lE h=>
bE false lE (
ah (some 1) x1 fun t32=>
al (some false) (some 1) t32 h fun t33 _=>
ag Pg .gtr 3 true t33 (.sc (.int .i64 64)) fun t35=>
cq W R N E P x1 lE t35 h) (
cq W R N E P x1 lE aa h)
def cN:N3:=fun W R N E P x1 dM q8 h=>
aT dM (.sc (.bool true)) q8 fun t36=>
cL W R N E P x1 t36 h
def cG:N2:=fun W R N E P x1 dM h=>
bE false dM (
ah (some 1) x1 fun t37=>
al (some false) (some 1) t37 h fun t38 _=>
ag Pg .lss 3 true t38 (.sc (.int .i64 0)) fun t40=>
cN W R N E P x1 dM t40 h) (
cN W R N E P x1 dM aa h)
def cE:N3:=fun W R N E P x1 ax bV h=>
aT ax (.sc (.bool true)) bV fun t41=>
cG W R N E P x1 t41 h
def cV:N2:=fun W R N E P x1 ax h=>
bE false ax (
ah (some 0) x1 fun t42=>
al (some false) (some 1) t42 h fun t43 _=>
ag Pg .gtr 3 true t43 (.sc (.int .i64 64)) fun t45=>
cE W R N E P x1 ax t45 h) (
cE W R N E P x1 ax aa h)
def cX:N1:=fun W R N E P x1 h=>
ah (some 0) x1 fun t46=>
al (some false) (some 1) t46 h fun t47 _=>
ag Pg .lss 3 true t47 (.sc (.int .i64 0)) fun t49=>
cV W R N E P x1 t49 h
def cU:N1:=fun W R N E P x0 h=>
dS 3 24 x0 h fun t50 HY=>
cX W R N E P t50 HY
theorem aO{x0:AV}{h:AH}{M:WK}{R:RK}(hp:cU (fun id=>M id\/h.next<=id) (aK Pg [.tmp 2,.tmp 3] R) (aK Pg [.tmp 2,.tmp 3] R) (fun _ _ _=>False) (fun v h=>R (.b6 v) h) x0 h):aB Pg 14 [x0] h M R:=
 fin (n:=53) (pl:=[(1,⟨[(none,(fr 0 4)),(some (3,false),(fr 4 3)),(none,(fr 7 2)),(some (8,false),(fr 9 3)),(none,(fr 12 2)),(some (13,false),(fr 14 3)),(none,(fr 17 1))],false,[],[]⟩)]) (rs:=[.tmp 2,.tmp 3]) (L:=rs) (fun c=>(a1 cU 0 c)) Tryz.mixed Tryz.func14 (fun c=>
(sq (a1 cU 0 c)
(sn
(sn
(sq (a1 bP 1 c)
(sn
(sl (a0 n1 c))
(sq (a2 bM 1 4 c)
(bk 0 (lp [1,4,31,32,33] rs [(0,[])] (a5 bF 1 4 31 32 33 c) cT (fun i vs h=>if i=0 then n1 c.W c.R c.N c.E c.P h else c.E i vs h) (.b (.t .o)) fun c=>
(sq (a5 br 1 4 31 32 33 c)
(sn
(sn
(sm (a5 n2 1 4 31 32 33 c))
(bk 1 (sq (a5 bc 1 4 31 32 33 c)
(sn
(sq (a7 n6 1 4 5 6 31 32 33 c)
(sq (a6 n5 1 4 5 31 32 33 c)
(cd (a7 n4 1 4 5 31 32 33 50 c) (sl (a1 n3 5 c)) tr)))
(sq (a7 aZ 1 4 5 6 31 32 33 c)
(sq (a8 n9 1 4 5 6 7 31 32 33 c)
(cd (a9 n8 1 4 5 6 7 31 32 33 42 c) (sl (a2 n7 5 7 c)) tr)))))))
(cd (a6 ba 1 4 31 32 33 34 c) tr tr))))))))
(sq (a1 bT 1 c)
(cd (a2 bW 1 29 c) (sl (a0 bN c)) tr)))
(sn
(cd (a2 cl 1 25 c) (sl (a0 bX c)) tr)
(gr (gn (a1 cX 1 c) (gx (a2 cV 1 11 c) (gn (a3 cE 1 11 14 c) (gx (a2 cG 1 16 c) (gn (a3 cN 1 16 19 c) (gx (a2 cL 1 21 c) (gl (a3 cq 1 21 24 c))))))))))))) hp
attribute [simp] n1 n2 n3 n4 n5 n6 n7 n8 n9 aZ bc ba br bM bP bN bW bT bX cl cq cL cN cG cE cV cX cU
end lB
namespace cH
abbrev rs:List Nat:=[4]
def n1:N0:=fun _ R _ _ _ h=>
R [(.sc (.int .i64 0))] h
def n2:N4:=fun _ _ N _ _ x3 nO nN mC h=>
ag Pg .add 3 true mC (.sc (.int .i64 1)) fun t1=>
N [x3,nO,nN,t1] h
def n3:N0:=fun _ R _ _ _ h=>
R [(.sc (.int .i64 113))] h
def n4:N5:=fun W R N E P x3 nO nN mC aac h=>
aM aac (
n3 W R N E P h) (
n2 W R N E P x3 nO nN mC h)
def n5:N6:=fun W R N E P x3 au ax nO nN mC h=>
ah (some 2) x3 fun t2=>
al (some false) (some 1) t2 h fun t3 _=>
sU (some 1) t3 none (some au) h fun t5=>
aC Pg W 45 [t5,ax] h (fun t6 h7=>
n4 W R N E P x3 nO nN mC t6 h7) P
def n6:N4:=fun W R N E P x3 nO nN mC h=>
cj (some (1,none)) nO mC fun t8=>
al (some false) (some 1) t8 h fun t9 _=>
n5 W R N E P x3 mC t9 nO nN mC h
def n7:N5:=fun W R N E P x3 nO nN mC aae h=>
aM aae (
n6 W R N E P x3 nO nN mC h) (
E 3 [] h)
def n8:N4:=fun W R N E P x3 nO nN mC h=>
ag Pg .lss 3 false mC nN fun t11=>
n7 W R N E P x3 nO nN mC t11 h
def cT:GK:=fun W R N E P N' vs h=>n8 W R N' (fun(i:Nat) (vs:List AV) (h:AH)=>if i=3 then n1 W R N E P h else E i vs h) P (vs.getD 0 aa) (vs.getD 1 aa) (vs.getD 2 aa) (vs.getD 3 aa) h
def n9:N4:=fun W R N E P x3 nO nN mC h=>
dT (cT W R N E P) [x3,nO,nN,mC] h
def aZ:N1:=fun W R N E P x3 h=>
ah (some 2) x3 fun t12=>
al (some false) (some 1) t12 h fun t13 _=>
(a_ t13=false)/\bO t13 fun t15=>
n9 W R N E P x3 t13 t15 (.sc (.int .i64 0)) h
def bc:N0:=fun _ R _ _ _ h=>
R [(.sc (.int .i64 112))] h
def ba:N2:=fun W R N E P x3 MW h=>
aM MW (
bc W R N E P h) (
aZ W R N E P x3 h)
def br:N3:=fun W R N E P x3 qg aaf h=>
aT qg aaf (.sc (.bool false)) fun t16=>
ba W R N E P x3 t16 h
def bF:N4:=fun W R N E P x3 qg zd aag h=>
bE true qg (
aT zd (.sc (.bool true)) aag fun t17=>
br W R N E P x3 qg t17 h) (
br W R N E P x3 qg aa h)
def bM:N4:=fun W R N E P x2 x3 qg zd h=>
bE false zd (
ah (some 3) x3 fun t18=>
al (some false) (some 1) t18 h fun t19 _=>
ah (some 1) x2 fun t21=>
al (some false) (some 1) t21 h fun t22 _=>
ag Pg .geq 3 false t19 t22 fun t24=>
bF W R N E P x3 qg zd t24 h) (
bF W R N E P x3 qg zd aa h)
def bP:N3:=fun W R N E P x2 x3 qg h=>
bE true qg (
ah (some 3) x3 fun t25=>
al (some false) (some 1) t25 h fun t26 _=>
ag Pg .lss 3 true t26 (.sc (.int .i64 0)) fun t28=>
bM W R N E P x2 x3 qg t28 h) (
bM W R N E P x2 x3 qg aa h)
def bN:N2:=fun W R N E P x2 x3 h=>
ah (some 0) x3 fun t29=>
al (some false) (some 1) t29 h fun t30 _=>
ag Pg .eql 3 true t30 (.sc (.int .i64 2)) fun t32=>
bP W R N E P x2 x3 t32 h
def bW:N5:=fun _ _ N _ _ x2 x3 fj gg gp h=>
ag Pg .add 3 true gp (.sc (.int .i64 1)) fun t33=>
N [x2,x3,fj,gg,t33] h
def bT:N0:=fun _ R _ _ _ h=>
R [(.sc (.int .i64 112))] h
def bX:N6:=fun W R N E P x2 x3 fj gg gp aal h=>
aM aal (
bT W R N E P h) (
bW W R N E P x2 x3 fj gg gp h)
def cl:N7:=fun W R N E P x2 x3 fj gg gp vW aam h=>
aT vW (.sc (.bool true)) aam fun t34=>
bX W R N E P x2 x3 fj gg gp t34 h
def cq:N7:=fun W R N E P x2 x3 x9 fj gg gp vW h=>
bE false vW (
ah (some 0) x2 fun t35=>
al (some false) (some 1) t35 h fun t36 _=>
ag Pg .geq 3 false x9 t36 fun t38=>
cl W R N E P x2 x3 fj gg gp vW t38 h) (
cl W R N E P x2 x3 fj gg gp vW aa h)
def cL:N6:=fun W R N E P x2 x3 x9 fj gg gp h=>
ag Pg .lss 3 true x9 (.sc (.int .i64 0)) fun t39=>
cq W R N E P x2 x3 x9 fj gg gp t39 h
def cN:N5:=fun W R N E P x2 x3 fj gg gp h=>
cj (some (1,none)) fj gp fun t40=>
al (some false) (some 1) t40 h fun t41 _=>
cL W R N E P x2 x3 t41 fj gg gp h
def cG:N6:=fun W R N E P x2 x3 fj gg gp iZ h=>
aM iZ (
cN W R N E P x2 x3 fj gg gp h) (
E 1 [x2,x3] h)
def cE:N5:=fun W R N E P x2 x3 fj gg gp h=>
ag Pg .lss 3 false gp gg fun t43=>
cG W R N E P x2 x3 fj gg gp t43 h
def ju:GK:=fun W R N E P N' vs h=>cE W R N' (fun(i:Nat) (vs:List AV) (h:AH)=>if i=1 then bN W R N E P (vs.getD 0 aa) (vs.getD 1 aa) h else E i vs h) P (vs.getD 0 aa) (vs.getD 1 aa) (vs.getD 2 aa) (vs.getD 3 aa) (vs.getD 4 aa) h
def cV:N5:=fun W R N E P x2 x3 fj gg gp h=>
dT (ju W R N E P) [x2,x3,fj,gg,gp] h
def cX:N2:=fun W R N E P x2 x3 h=>
ah (some 2) x3 fun t44=>
al (some false) (some 1) t44 h fun t45 _=>
(a_ t45=false)/\bO t45 fun t47=>
cV W R N E P x2 x3 t45 t47 (.sc (.int .i64 0)) h
def cU:N0:=fun _ R _ _ _ h=>
R [(.sc (.int .i64 111))] h
def dG:N3:=fun W R N E P x2 x3 Tk h=>
aM Tk (
cU W R N E P h) (
cX W R N E P x2 x3 h)
def dV:N3:=fun W R N E P x2 x3 x7 h=>
ah (some 2) x3 fun t48=>
al (some false) (some 1) t48 h fun t49 _=>
(a_ t49=false)/\bO t49 fun t51=>
ag Pg .neq 3 false t51 x7 fun t52=>
dG W R N E P x2 x3 t52 h
def ea:N0:=fun _ R _ _ _ h=>
R [(.sc (.int .i64 80))] h
def fq:N4:=fun W R N E P x2 x3 x7 Tm h=>
aM Tm (
ea W R N E P h) (
dV W R N E P x2 x3 x7 h)
def jp:N3:=fun W R N E P x2 x3 x7 h=>
ag Pg .eql 3 true x7 (.sc (.int .i64 0)) fun t53=>
fq W R N E P x2 x3 x7 t53 h
def jD:N2:=fun W R N E P x2 x3 h=>
ah (some 1) x3 fun t54=>
al (some false) (some 1) t54 h fun t55 _=>
aC Pg W 44 [t55] h (fun t57 tJ=>
jp W R N E P x2 x3 t57 tJ) P
def ir:N4:=fun W R N E P x2 x3 x7 Tn h=>
aM Tn (
jD W R N E P x2 x3 h) (
dV W R N E P x2 x3 x7 h)
def jC:N3:=fun W R N E P x2 x3 x7 h=>
ah (some 0) x3 fun t59=>
al (some false) (some 1) t59 h fun t60 _=>
ag Pg .eql 3 true t60 (.sc (.int .i64 1)) fun t62=>
ir W R N E P x2 x3 x7 t62 h
def iV:N2:=fun W R N E P x2 x3 h=>
jC W R N E P x2 x3 (.sc (.int .i64 1)) h
def j_:N0:=fun _ R _ _ _ h=>
R [(.sc (.int .i64 120))] h
def iq:N0:=fun _ R _ _ _ h=>
R [(.sc (.int .i64 120))] h
def iN:N3:=fun W R N E P x2 x3 lC h=>
aM lC (
iq W R N E P h) (
iV W R N E P x2 x3 h)
def jN:N4:=fun W R N E P x2 x3 ep pP h=>
aT ep pP (.sc (.bool false)) fun t63=>
iN W R N E P x2 x3 t63 h
def jo:N3:=fun W R N E P x2 x3 ep h=>
bE true ep (
ah (some 3) x3 fun t64=>
al (some false) (some 1) t64 h fun t65 _=>
ag Pg .neq 3 true t65 (.sc (.int .i64 0)) fun t67=>
jN W R N E P x2 x3 ep t67 h) (
jN W R N E P x2 x3 ep aa h)
def jf:N2:=fun W R N E P x2 x3 h=>
ah (some 0) x3 fun t68=>
al (some false) (some 1) t68 h fun t69 _=>
ag Pg .neq 3 true t69 (.sc (.int .i64 2)) fun t71=>
jo W R N E P x2 x3 t71 h
def kJ:N3:=fun W R N E P x2 x3 lC h=>
aM lC (
iN W R N E P x2 x3 lC h) (
jf W R N E P x2 x3 h)
def mw:N4:=fun W R N E P x2 x3 qZ Az h=>
aT qZ Az (.sc (.bool false)) fun t72=>
kJ W R N E P x2 x3 t72 h
def si:N3:=fun W R N E P x2 x3 qZ h=>
bE true qZ (
ah (some 1) x3 fun t73=>
al (some false) (some 1) t73 h fun t74 _=>
ag Pg .neq 9 true t74 (.sc (.string ⟨#[]⟩)) fun t76=>
mw W R N E P x2 x3 qZ t76 h) (
mw W R N E P x2 x3 qZ aa h)
def qv:N2:=fun W R N E P x2 x3 h=>
ah (some 0) x3 fun t77=>
al (some false) (some 1) t77 h fun t78 _=>
ag Pg .neq 3 true t78 (.sc (.int .i64 1)) fun t80=>
si W R N E P x2 x3 t80 h
def km:N3:=fun W R N E P x2 x3 eU h=>
aM eU (
j_ W R N E P h) (
qv W R N E P x2 x3 h)
def yq:N3:=fun W R N E P x2 x3 eU h=>
aM eU (
km W R N E P x2 x3 eU h) (
ah (some 6) x3 fun t81=>
al (some false) (some 1) t81 h fun t82 _=>
ah (some 5) x3 fun t84=>
al (some false) (some 1) t84 h fun t85 _=>
ag Pg .andNot 36 false t82 t85 fun t87=>
ag Pg .neq 36 true t87 (.sc (.int .u64 0)) fun t88=>
km W R N E P x2 x3 t88 h)
def C3:N3:=fun W R N E P x2 x3 x6 h=>
ah (some 5) x3 fun t89=>
al (some false) (some 1) t89 h fun t90 _=>
ag Pg .andNot 36 false t90 x6 fun t92=>
ag Pg .neq 36 true t92 (.sc (.int .u64 0)) fun t93=>
yq W R N E P x2 x3 t93 h
def yp:N4:=fun W R N E P x2 x3 x6 eU h=>
aM eU (
km W R N E P x2 x3 eU h) (
C3 W R N E P x2 x3 x6 h)
def vk:N5:=fun W R N E P x2 x3 x6 gu cC h=>
aT gu cC (.sc (.bool false)) fun t94=>
yp W R N E P x2 x3 x6 t94 h
def wA:N6:=fun W R N E P x2 x3 x6 gu je mu h=>
bE true gu (
aT je (.sc (.bool true)) mu fun t95=>
vk W R N E P x2 x3 x6 gu t95 h) (
vk W R N E P x2 x3 x6 gu aa h)
def A_:N5:=fun W R N E P x2 x3 x6 gu je h=>
bE false je (
ah (some 6) x3 fun t96=>
al (some false) (some 1) t96 h fun t97 _=>
ag Pg .neq 36 true t97 (.sc (.int .u64 0)) fun t99=>
wA W R N E P x2 x3 x6 gu je t99 h) (
wA W R N E P x2 x3 x6 gu je aa h)
def A9:N4:=fun W R N E P x2 x3 x6 gu h=>
bE true gu (
ah (some 5) x3 fun t100=>
al (some false) (some 1) t100 h fun t101 _=>
ag Pg .neq 36 true t101 (.sc (.int .u64 0)) fun t103=>
A_ W R N E P x2 x3 x6 gu t103 h) (
A_ W R N E P x2 x3 x6 gu aa h)
def Uv:N3:=fun W R N E P x2 x3 x6 h=>
ah (some 4) x3 fun t104=>
al (some false) (some 1) t104 h fun t105 _=>
gM .not t105 fun t107=>
A9 W R N E P x2 x3 x6 t107 h
def Uu:N4:=fun W R N E P x2 x3 x6 eU h=>
aM eU (
km W R N E P x2 x3 eU h) (
Uv W R N E P x2 x3 x6 h)
def P1:N5:=fun W R N E P x2 x3 x6 fA kH h=>
aT fA kH (.sc (.bool false)) fun t108=>
Uu W R N E P x2 x3 x6 t108 h
def Ut:N4:=fun W R N E P x2 x3 x6 fA h=>
bE true fA (
ah (some 5) x3 fun t109=>
al (some false) (some 1) t109 h fun t110 _=>
ag Pg .eql 36 true t110 (.sc (.int .u64 0)) fun t112=>
P1 W R N E P x2 x3 x6 fA t112 h) (
P1 W R N E P x2 x3 x6 fA aa h)
def Us:N3:=fun W R N E P x2 x3 x6 h=>
ah (some 4) x3 fun t113=>
al (some false) (some 1) t113 h fun t114 _=>
Ut W R N E P x2 x3 x6 t114 h
def Ur:N4:=fun W R N E P x2 x3 x6 eU h=>
aM eU (
km W R N E P x2 x3 eU h) (
Us W R N E P x2 x3 x6 h)
def E8:N4:=fun W R N E P x2 x3 x5 x6 h=>
gM .not x5 fun t116=>
Ur W R N E P x2 x3 x6 t116 h
def P0:N5:=fun W R N E P x2 x3 x5 x6 iI h=>
aM iI (
E8 W R N E P x2 x3 x5 (.sc (.int .u64 18446744073709551615)) h) (
E8 W R N E P x2 x3 x5 x6 h)
def PZ:N4:=fun W R N E P x2 x3 x5 x6 h=>
ah (some 1) x2 fun t117=>
al (some false) (some 1) t117 h fun t118 _=>
ag Pg .eql 3 true t118 (.sc (.int .i64 64)) fun t120=>
P0 W R N E P x2 x3 x5 x6 t120 h
def C2:N3:=fun W R N E P x2 x3 x5 h=>
ah (some 1) x2 fun t121=>
al (some false) (some 1) t121 h fun t122 _=>
ag Pg .shl 36 true (.sc (.int .u64 1)) t122 fun t124=>
ag Pg .sub 36 true t124 (.sc (.int .u64 1)) fun t125=>
PZ W R N E P x2 x3 x5 t125 h
def PY:N4:=fun W R N E P x2 x3 tn ns h=>
aT tn (.sc (.bool true)) ns fun t126=>
C2 W R N E P x2 x3 t126 h
def Uq:N3:=fun W R N E P x2 x3 tn h=>
bE false tn (
ah (some 0) x3 fun t127=>
al (some false) (some 1) t127 h fun t128 _=>
ag Pg .eql 3 true t128 (.sc (.int .i64 3)) fun t130=>
PY W R N E P x2 x3 tn t130 h) (
PY W R N E P x2 x3 tn aa h)
def PW:N4:=fun W R N E P x2 x3 dD EA h=>
aT dD (.sc (.bool true)) EA fun t131=>
Uq W R N E P x2 x3 t131 h
def Up:N3:=fun W R N E P x2 x3 dD h=>
bE false dD (
ah (some 0) x3 fun t132=>
al (some false) (some 1) t132 h fun t133 _=>
ag Pg .eql 3 true t133 (.sc (.int .i64 2)) fun t135=>
PW W R N E P x2 x3 dD t135 h) (
PW W R N E P x2 x3 dD aa h)
def PV:N2:=fun W R N E P x2 x3 h=>
ah (some 0) x3 fun t136=>
al (some false) (some 1) t136 h fun t137 _=>
ag Pg .eql 3 true t137 (.sc (.int .i64 1)) fun t139=>
Up W R N E P x2 x3 t139 h
def KZ:N2:=fun W R N E P x0 x1 h=>
dS 3 24 x0 h fun t140 acf=>
dS 7 38 x1 acf fun t142 ace=>
PV W R N E P t140 t142 ace
theorem aO{x0 x1:AV}{h:AH}{M:WK}{R:RK}(hp:KZ (fun id=>M id\/h.next<=id) (aK Pg [.tmp 4] R) (aK Pg [.tmp 4] R) (fun _ _ _=>False) (fun v h=>R (.b6 v) h) x0 x1 h):aB Pg 27 [x0,x1] h M R:=
 fin (n:=142) (pl:=[(1,⟨[(none,(fr 0 4)),(some (3,false),(fr 4 3)),(none,(fr 7 2)),(some (8,false),(fr 9 3)),(none,(fr 12 2))],false,[],[]⟩),(6,⟨[(none,(fr 0 3)),(some (2,true),(fr 3 3)),(none,(fr 6 2))],false,[],[]⟩),(7,⟨[(none,(fr 0 4)),(some (3,true),(fr 4 4)),(some (7,false),(fr 8 3)),(some (3,true),(fr 11 1)),(none,(fr 12 2))],false,[],[]⟩),(11,⟨[(none,(fr 0 4)),(some (3,true),(fr 4 3)),(none,(fr 7 2))],false,[],[]⟩),(12,⟨[(none,(fr 0 4)),(some (3,true),(fr 4 3)),(none,(fr 7 2))],false,[],[]⟩),(24,⟨[(none,(fr 0 3)),(some (2,false),(fr 3 4)),(none,(fr 7 1))],false,[],[]⟩),(27,⟨[(none,(fr 0 4)),(some (3,true),(fr 4 4)),(some (7,false),(fr 8 5)),(some (3,true),(fr 13 1)),(none,(fr 14 1))],false,[],[]⟩)]) (rs:=[.tmp 4]) (L:=rs) (fun c=>(a2 KZ 0 1 c)) Tryz.mixed Tryz.func27 (fun c=>
(sq (a2 KZ 0 1 c)
(sn
(sq (a3 C2 2 3 5 c)
(sn
(sn
(sq (a2 iV 2 3 c)
(sn
(sn
(sn
(sn
(sn
(sl (a0 n1 c))
(sq (a1 aZ 3 c)
(bk 3 (lp [3,128,129,130] rs [(3,[])] (a4 n9 3 128 129 130 c) cT (fun i vs h=>if i=3 then n1 c.W c.R c.N c.E c.P h else c.E i vs h) (.b (.t .o)) fun c=>
(sq (a4 n8 3 128 129 130 c)
(sn
(sn
(sm (a4 n2 3 128 129 130 c))
(bk 4 (sq (a4 n6 3 128 129 130 c)
(sq (a6 n5 3 10 11 128 129 130 c)
(cd (a5 n4 3 128 129 130 140 c) (sl (a0 n3 c)) tr)))))
(cd (a5 n7 3 128 129 130 131 c) tr tr)))))))
(sn
(cd (a2 ba 3 126 c) (sl (a0 bc c)) tr)
(gr (gn (a2 bN 2 3 c) (gx (a3 bP 2 3 115 c) (gx (a4 bM 2 3 115 119 c) (gx (a4 bF 3 115 119 124 c) (gl (a3 br 3 115 125 c)))))))))
(sq (a2 cX 2 3 c)
(bk 1 (lp [2,3,97,98,99] rs [(1,[2,3])] (a5 cV 2 3 97 98 99 c) ju (fun i vs h=>if i=1 then bN c.W c.R c.N c.E c.P (vs.getD 0 aa) (vs.getD 1 aa) h else c.E i vs h) (.b (.t .o)) fun c=>
(sq (a5 cE 2 3 97 98 99 c)
(sn
(sn
(sm (a5 bW 2 3 97 98 99 c))
(bk 2 (sq (a5 cN 2 3 97 98 99 c)
(sn
(cd (a6 bX 2 3 97 98 99 110 c) (sl (a0 bT c)) tr)
(gr (gn (a6 cL 2 3 9 97 98 99 c) (gx (a7 cq 2 3 9 97 98 99 105 c) (gl (a7 cl 2 3 97 98 99 105 109 c)))))))))
(cd (a6 cG 2 3 97 98 99 100 c) tr tr)))))))
(sq (a3 dV 2 3 7 c)
(cd (a3 dG 2 3 95 c) (sl (a0 cU c)) tr)))
(sq (a3 jC 2 3 7 c)
(cd (a4 ir 2 3 7 85 c) (sq (a2 jD 2 3 c)
(sq (a3 jp 2 3 7 c)
(cd (a4 fq 2 3 7 90 c) (sl (a0 ea c)) tr))) tr))))
(bk 0 (sn
(cd (a3 km 2 3 32 c) (sl (a0 j_ c)) (sn
(cd (a3 iN 2 3 66 c) (sl (a0 iq c)) tr)
(sn
(cd (a3 kJ 2 3 66 c) tr (gr (gn (a2 jf 2 3 c) (gx (a3 jo 2 3 78 c) (gl (a4 jN 2 3 78 81 c))))))
(gr (gn (a2 qv 2 3 c) (gx (a3 si 2 3 70 c) (gl (a4 mw 2 3 70 73 c))))))))
(sq (a4 E8 2 3 5 6 c)
(cd (a4 Ur 2 3 6 32 c) tr (sn
(cd (a4 Uu 2 3 6 32 c) tr (sn
(cd (a4 yp 2 3 6 32 c) tr (sq (a3 C3 2 3 6 c)
(cd (a3 yq 2 3 32 c) tr tr)))
(gr (gn (a3 Uv 2 3 6 c) (gx (a4 A9 2 3 6 45 c) (gx (a5 A_ 2 3 6 45 49 c) (gx (a6 wA 2 3 6 45 49 52 c) (gl (a5 vk 2 3 6 45 53 c)))))))))
(gr (gn (a3 Us 2 3 6 c) (gx (a4 Ut 2 3 6 37 c) (gl (a5 P1 2 3 6 37 40 c)))))))))))
(sq (a4 PZ 2 3 5 6 c)
(cd (a5 P0 2 3 5 6 31 c) tr tr))))
(gr (gn (a2 PV 2 3 c) (gx (a3 Up 2 3 15 c) (gn (a4 PW 2 3 15 18 c) (gx (a3 Uq 2 3 20 c) (gl (a4 PY 2 3 20 23 c)))))))))) hp
attribute [simp] n1 n2 n3 n4 n5 n6 n7 n8 aZ bc ba br bF bM bP bN bW bT bX cl cq cL cN cG cE cX cU dG dV ea fq jp jD ir jC iV j_ iq iN jN jo jf kJ mw si qv km yq C3 yp vk wA A_ A9 Uv Uu P1 Ut Us Ur E8 P0 PZ C2 PY Uq PW Up PV KZ
end cH
namespace Ix
abbrev rs:List Nat:=[2]
def n1:N1:=fun W R _ _ P x1 h=>
ah (some 1) x1 fun t1=>
al (some false) (some 1) t1 h fun t2 _=>
aC Pg W 46 [t2] h (fun t4 h5=>
R [t4] h5) P
def n2:N0:=fun _ R _ _ _ h=>
R [(.sc (.int .i64 0))] h
def n3:N2:=fun W R N E P x1 x5 h=>
aM x5 (
n2 W R N E P h) (
n1 W R N E P x1 h)
def n4:N1:=fun W R N E P x1 h=>
ah (some 0) x1 fun t6=>
al (some false) (some 1) t6 h fun t7 _=>
ag Pg .neq 3 true t7 (.sc (.int .i64 1)) fun t9=>
n3 W R N E P x1 t9 h
def n5:N1:=fun W R N E P x0 h=>
dS 7 38 x0 h fun t10 qz=>
n4 W R N E P t10 qz
theorem aO{x0:AV}{h:AH}{M:WK}{R:RK}(hp:n5 (fun id=>M id\/h.next<=id) (aK Pg [.tmp 2] R) (aK Pg [.tmp 2] R) (fun _ _ _=>False) (fun v h=>R (.b6 v) h) x0 h):aB Pg 28 [x0] h M R:=
 fin (n:=9) (pl:=[]) (rs:=[.tmp 2]) (L:=rs) (fun c=>(a1 n5 0 c)) Tryz.mixed Tryz.func28 (fun c=>
(sq (a1 n5 0 c)
(sn
(sl (a1 n1 1 c))
(sq (a1 n4 1 c)
(cd (a2 n3 1 5 c) (sl (a0 n2 c)) tr))))) hp
attribute [simp] n1 n2 n3 n4 n5
end Ix
namespace F9
abbrev rs:List Nat:=[4]
def n1:N0:=fun _ R _ _ _ h=>
R [(.sc (.bool true))] h
def n2:N3:=fun _ _ N _ _ x2 x3 x5 h=>
ag Pg .add 3 true x5 (.sc (.int .i64 1)) fun t1=>
N [x2,x3,t1] h
def n3:N0:=fun _ R _ _ _ h=>
R [(.sc (.bool false))] h
def n4:N4:=fun W R N E P x2 x3 x5 x93 h=>
aM x93 (
n3 W R N E P h) (
n2 W R N E P x2 x3 x5 h)
def n5:N5:=fun W R N E P x2 x3 x5 tj vT h=>
aT tj (.sc (.bool true)) vT fun t2=>
n4 W R N E P x2 x3 x5 t2 h
def n6:N6:=fun W R N E P x2 x3 x5 x6 x7 tj h=>
bE false tj (
ah (some 6) x6 fun t3=>
al (some false) (some 1) t3 h fun t4 _=>
ah (some 6) x7 fun t6=>
al (some false) (some 1) t6 h fun t7 _=>
ag Pg .neq 36 false t4 t7 fun t9=>
n5 W R N E P x2 x3 x5 tj t9 h) (
n5 W R N E P x2 x3 x5 tj aa h)
def n7:N7:=fun W R N E P x2 x3 x5 x6 x7 ms Tn h=>
aT ms (.sc (.bool true)) Tn fun t10=>
n6 W R N E P x2 x3 x5 x6 x7 t10 h
def n8:N6:=fun W R N E P x2 x3 x5 x6 x7 ms h=>
bE false ms (
ah (some 5) x6 fun t11=>
al (some false) (some 1) t11 h fun t12 _=>
ah (some 5) x7 fun t14=>
al (some false) (some 1) t14 h fun t15 _=>
ag Pg .neq 36 false t12 t15 fun t17=>
n7 W R N E P x2 x3 x5 x6 x7 ms t17 h) (
n7 W R N E P x2 x3 x5 x6 x7 ms aa h)
def n9:N7:=fun W R N E P x2 x3 x5 x6 x7 Az ep h=>
aT Az (.sc (.bool true)) ep fun t18=>
n8 W R N E P x2 x3 x5 x6 x7 t18 h
def aZ:N6:=fun W R N E P x2 x3 x5 x6 x7 Az h=>
bE false Az (
ah (some 4) x6 fun t19=>
al (some false) (some 1) t19 h fun t20 _=>
ah (some 4) x7 fun t22=>
al (some false) (some 1) t22 h fun t23 _=>
ag Pg .neq 4 false t20 t23 fun t25=>
n9 W R N E P x2 x3 x5 x6 x7 Az t25 h) (
n9 W R N E P x2 x3 x5 x6 x7 Az aa h)
def bc:N7:=fun W R N E P x2 x3 x5 x6 x7 lC AA h=>
aT lC (.sc (.bool true)) AA fun t26=>
aZ W R N E P x2 x3 x5 x6 x7 t26 h
def ba:N6:=fun W R N E P x2 x3 x5 x6 x7 lC h=>
bE false lC (
ah (some 3) x6 fun t27=>
al (some false) (some 1) t27 h fun t28 _=>
ah (some 3) x7 fun t30=>
al (some false) (some 1) t30 h fun t31 _=>
ag Pg .neq 3 false t28 t31 fun t33=>
bc W R N E P x2 x3 x5 x6 x7 lC t33 h) (
bc W R N E P x2 x3 x5 x6 x7 lC aa h)
def br:N7:=fun W R N E P x2 x3 x5 x6 x7 Ex Ev h=>
aT Ex (.sc (.bool true)) Ev fun t34=>
ba W R N E P x2 x3 x5 x6 x7 t34 h
def bF:N6:=fun W R N E P x2 x3 x5 x6 x7 Ex h=>
bE false Ex (
ah (some 2) x6 fun t35=>
al (some false) (some 1) t35 h fun t36 _=>
ah (some 2) x7 fun t38=>
al (some false) (some 1) t38 h fun t39 _=>
aC Pg W 21 [t36,t39] h (fun t41 QM=>
gM .not t41 fun t43=>
br W R N E P x2 x3 x5 x6 x7 Ex t43 QM) P) (
br W R N E P x2 x3 x5 x6 x7 Ex aa h)
def bM:N7:=fun W R N E P x2 x3 x5 x6 x7 vU J1 h=>
aT vU (.sc (.bool true)) J1 fun t44=>
bF W R N E P x2 x3 x5 x6 x7 t44 h
def bP:N6:=fun W R N E P x2 x3 x5 x6 x7 vU h=>
bE false vU (
ah (some 1) x6 fun t45=>
al (some false) (some 1) t45 h fun t46 _=>
ah (some 1) x7 fun t48=>
al (some false) (some 1) t48 h fun t49 _=>
ag Pg .neq 9 false t46 t49 fun t51=>
bM W R N E P x2 x3 x5 x6 x7 vU t51 h) (
bM W R N E P x2 x3 x5 x6 x7 vU aa h)
def bN:N5:=fun W R N E P x2 x3 x5 x6 x7 h=>
ah (some 0) x6 fun t52=>
al (some false) (some 1) t52 h fun t53 _=>
ah (some 0) x7 fun t55=>
al (some false) (some 1) t55 h fun t56 _=>
ag Pg .neq 3 false t53 t56 fun t58=>
bP W R N E P x2 x3 x5 x6 x7 t58 h
def bW:N3:=fun W R N E P x2 x3 x5 h=>
∃Hd:Nat->Nat,(∀i∈[6,9],h.obj (Hd i)≠none)/\(
ah (some 2) x2 fun t59=>
al (some false) (some 1) t59 h fun t60 _=>
cj (some (7,none)) t60 x5 fun t62=>
al (some true) (some 7) t62 h fun t63 _=>
ah (some 2) x3 fun t65=>
al (some false) (some 1) t65 h fun t66 i67=>
(i67=Hd 6)/\(
cj (some (7,none)) t66 x5 fun t68=>
al (some true) (some 7) t68 h fun t69 i70=>
(i70=Hd 9)/\(
(
bn (some [.int .i64 0,.string ⟨#[]⟩,.slice none 0 0,.int .i64 0,.bool false,.int .u64 0,.int .u64 0]) 7 38 h fun t71 Bz=>
bn (some [.int .i64 0,.string ⟨#[]⟩,.slice none 0 0,.int .i64 0,.bool false,.int .u64 0,.int .u64 0]) 7 38 Bz fun t73 FN=>
aE (some 7) t71 t63 FN (jG W Hd [6,9]) fun LY=>
aE (some 7) t73 t69 LY W fun FM=>
bN W R N E P x2 x3 x5 t71 t73 FM)/\(
bn (some [.int .i64 0,.string ⟨#[]⟩,.slice none 0 0,.int .i64 0,.bool false,.int .u64 0,.int .u64 0]) 7 38 h fun t77 By=>
bn (some [.int .i64 0,.string ⟨#[]⟩,.slice none 0 0,.int .i64 0,.bool false,.int .u64 0,.int .u64 0]) 7 38 By fun t79 FL=>
aE (some 7) t79 t63 FL (jG W Hd [6,9]) fun LX=>
aE (some 7) t77 t69 LX W fun LW=>
bN W R N E P x2 x3 x5 t79 t77 LW)/\True)))
def bT:N4:=fun W R N E P x2 x3 x5 fp h=>
aM fp (
bW W R N E P x2 x3 x5 h) (
E 0 [] h)
def bX:N3:=fun W R N E P x2 x3 x5 h=>
ah (some 2) x2 fun t83=>
al (some false) (some 1) t83 h fun t84 _=>
(a_ t84=false)/\bO t84 fun t86=>
ag Pg .lss 3 false x5 t86 fun t87=>
bT W R N E P x2 x3 x5 t87 h
def cT:GK:=fun W R N E P N' vs h=>bX W R N' (fun(i:Nat) (vs:List AV) (h:AH)=>if i=0 then n1 W R N E P h else E i vs h) P (vs.getD 0 aa) (vs.getD 1 aa) (vs.getD 2 aa) h
def cl:N3:=fun W R N E P x2 x3 x5 h=>
dT (cT W R N E P) [x2,x3,x5] h
def cq:N2:=fun W R N E P x2 x3 h=>
cl W R N E P x2 x3 (.sc (.int .i64 0)) h
def cL:N0:=fun _ R _ _ _ h=>
R [(.sc (.bool false))] h
def cN:N3:=fun W R N E P x2 x3 j9 h=>
aM j9 (
cL W R N E P h) (
cq W R N E P x2 x3 h)
def cG:N4:=fun W R N E P x2 x3 tn eV h=>
aT tn (.sc (.bool true)) eV fun t88=>
cN W R N E P x2 x3 t88 h
def cE:N3:=fun W R N E P x2 x3 tn h=>
bE false tn (
ah (some 2) x2 fun t89=>
al (some false) (some 1) t89 h fun t90 _=>
(a_ t90=false)/\bO t90 fun t92=>
ah (some 2) x3 fun t93=>
al (some false) (some 1) t93 h fun t94 _=>
(a_ t94=false)/\bO t94 fun t96=>
ag Pg .neq 3 false t92 t96 fun t97=>
cG W R N E P x2 x3 tn t97 h) (
cG W R N E P x2 x3 tn aa h)
def cV:N4:=fun W R N E P x2 x3 aR EA h=>
aT aR (.sc (.bool true)) EA fun t98=>
cE W R N E P x2 x3 t98 h
def cX:N3:=fun W R N E P x2 x3 aR h=>
bE false aR (
ah (some 1) x2 fun t99=>
al (some false) (some 1) t99 h fun t100 _=>
ah (some 1) x3 fun t102=>
al (some false) (some 1) t102 h fun t103 _=>
ag Pg .neq 3 false t100 t103 fun t105=>
cV W R N E P x2 x3 aR t105 h) (
cV W R N E P x2 x3 aR aa h)
def cU:N2:=fun W R N E P x2 x3 h=>
ah (some 0) x2 fun t106=>
al (some false) (some 1) t106 h fun t107 _=>
ah (some 0) x3 fun t109=>
al (some false) (some 1) t109 h fun t110 _=>
ag Pg .neq 3 false t107 t110 fun t112=>
cX W R N E P x2 x3 t112 h
def dG:N2:=fun W R N E P x0 x1 h=>
dS 3 24 x0 h fun t113 Ol=>
dS 3 24 x1 Ol fun t115 Ok=>
cU W R N E P t113 t115 Ok
theorem aO{x0 x1:AV}{h:AH}{M:WK}{R:RK}(hp:dG (fun id=>M id\/h.next<=id) (aK Pg [.tmp 4] R) (aK Pg [.tmp 4] R) (fun _ _ _=>False) (fun v h=>R (.b6 v) h) x0 x1 h):aB Pg 9 [x0,x1] h M R:=
 fin (n:=94) (pl:=[(1,⟨[(none,(fr 0 6)),(some (5,false),(fr 6 5)),(none,(fr 11 2)),(some (12,false),(fr 13 7)),(none,(fr 20 1))],false,[],[]⟩),(6,⟨[(none,[(0,false),(1,false),(2,false),(3,false),(4,false),(5,false),(6,true),(7,false),(8,false),(9,true)])],true,[.mk (fr 10 4) [],.mk [(11,false),(10,false),(12,false),(13,false)] []],[]⟩),(7,⟨[(none,(fr 0 6)),(some (5,false),(fr 6 5)),(none,(fr 11 2)),(some (12,false),(fr 13 6)),(none,(fr 19 2)),(some (20,false),(fr 21 5)),(none,(fr 26 2)),(some (27,false),(fr 28 5)),(none,(fr 33 2)),(some (34,false),(fr 35 5)),(none,(fr 40 2)),(some (41,false),(fr 42 5)),(none,(fr 47 1))],false,[],[]⟩)]) (rs:=[.tmp 4]) (L:=rs) (fun c=>(a2 dG 0 1 c)) Tryz.mixed Tryz.func9 (fun c=>
(sq (a2 dG 0 1 c)
(sn
(sn
(sl (a0 n1 c))
(sq (a2 cq 2 3 c)
(bk 0 (lp [2,3,5] rs [(0,[])] (a3 cl 2 3 5 c) cT (fun i vs h=>if i=0 then n1 c.W c.R c.N c.E c.P h else c.E i vs h) (.b (.t .o)) fun c=>
(sn
(sn
(sm (a3 n2 2 3 5 c))
(bk 1 (sn
(sn
(cd (a4 n4 2 3 5 93 c) (sl (a0 n3 c)) tr)
(gr (gn (a5 bN 2 3 5 6 7 c) (gx (a6 bP 2 3 5 6 7 51 c) (gn (a7 bM 2 3 5 6 7 51 56 c) (gx (a6 bF 2 3 5 6 7 58 c) (gn (a7 br 2 3 5 6 7 58 64 c) (gx (a6 ba 2 3 5 6 7 66 c) (gn (a7 bc 2 3 5 6 7 66 71 c) (gx (a6 aZ 2 3 5 6 7 73 c) (gn (a7 n9 2 3 5 6 7 73 78 c) (gx (a6 n8 2 3 5 6 7 80 c) (gn (a7 n7 2 3 5 6 7 80 85 c) (gx (a6 n6 2 3 5 6 7 87 c) (gl (a5 n5 2 3 5 87 92 c))))))))))))))))
(sm (a3 bW 2 3 5 c)))))
(sq (a3 bX 2 3 5 c)
(cd (a4 bT 2 3 5 33 c) tr tr)))))))
(sn
(cd (a3 cN 2 3 28 c) (sl (a0 cL c)) tr)
(gr (gn (a2 cU 2 3 c) (gx (a3 cX 2 3 13 c) (gn (a4 cV 2 3 13 18 c) (gx (a3 cE 2 3 20 c) (gl (a4 cG 2 3 20 27 c))))))))))) hp
attribute [simp] n1 n2 n3 n4 n5 n6 n7 n8 n9 aZ bc ba br bF bM bP bN bW bT bX cq cL cN cG cE cV cX cU dG
end F9
namespace rU
abbrev rs:List Nat:=[4]
def n1:N0:=fun _ R _ _ _ h=>
R [(.sc (.bool true))] h
def n2:N3:=fun _ _ N _ _ x0 x1 x5 h=>
ag Pg .add 3 true x5 (.sc (.int .i64 1)) fun t1=>
N [x0,x1,t1] h
def n3:N0:=fun _ R _ _ _ h=>
R [(.sc (.bool false))] h
def n4:N4:=fun W R N E P x0 x1 x5 pR h=>
aM pR (
n3 W R N E P h) (
n2 W R N E P x0 x1 x5 h)
def n5:N3:=fun W R N E P x0 x1 x5 h=>
cj (some (1,none)) x0 x5 fun t2=>
al (some false) (some 1) t2 h fun t3 _=>
cj (some (1,none)) x1 x5 fun t5=>
al (some false) (some 1) t5 h fun t6 _=>
ag Pg .neq 3 false t3 t6 fun t8=>
n4 W R N E P x0 x1 x5 t8 h
def n6:N4:=fun W R N E P x0 x1 x5 bV h=>
aM bV (
n5 W R N E P x0 x1 x5 h) (
E 0 [] h)
def n7:N3:=fun W R N E P x0 x1 x5 h=>
(a_ x0=false)/\bO x0 fun t9=>
ag Pg .lss 3 false x5 t9 fun t10=>
n6 W R N E P x0 x1 x5 t10 h
def cT:GK:=fun W R N E P N' vs h=>n7 W R N' (fun(i:Nat) (vs:List AV) (h:AH)=>if i=0 then n1 W R N E P h else E i vs h) P (vs.getD 0 aa) (vs.getD 1 aa) (vs.getD 2 aa) h
def n8:N3:=fun W R N E P x0 x1 x5 h=>
dT (cT W R N E P) [x0,x1,x5] h
def n9:N2:=fun W R N E P x0 x1 h=>
n8 W R N E P x0 x1 (.sc (.int .i64 0)) h
def aZ:N0:=fun _ R _ _ _ h=>
R [(.sc (.bool false))] h
def bc:N3:=fun W R N E P x0 x1 au h=>
aM au (
aZ W R N E P h) (
n9 W R N E P x0 x1 h)
def ba:N2:=fun W R N E P x0 x1 h=>
(a_ x0=false)/\bO x0 fun t11=>
(a_ x1=false)/\bO x1 fun t12=>
ag Pg .neq 3 false t11 t12 fun t13=>
bc W R N E P x0 x1 t13 h
def br:N2:=fun W R N E P x0 x1 h=>
ba W R N E P x0 x1 h
theorem aO{x0 x1:AV}{h:AH}{M:WK}{R:RK}(hp:br (fun id=>M id\/h.next<=id) (aK Pg [.tmp 4] R) (aK Pg [.tmp 4] R) (fun _ _ _=>False) (fun v h=>R (.b6 v) h) x0 x1 h):aB Pg 21 [x0,x1] h M R:=
 fin (n:=26) (pl:=[(6,⟨[(none,(fr 0 9))],false,[],[]⟩)]) (rs:=[.tmp 4]) (L:=rs) (fun c=>(a2 br 0 1 c)) Tryz.mixed Tryz.func21 (fun c=>
(sq (a2 br 0 1 c)
(sn
(sn
(sl (a0 n1 c))
(sq (a2 n9 0 1 c)
(bk 0 (lp [0,1,5] rs [(0,[])] (a3 n8 0 1 5 c) cT (fun i vs h=>if i=0 then n1 c.W c.R c.N c.E c.P h else c.E i vs h) (.b (.t .o)) fun c=>
(sn
(sn
(sm (a3 n2 0 1 5 c))
(bk 1 (sq (a3 n5 0 1 5 c)
(cd (a4 n4 0 1 5 25 c) (sl (a0 n3 c)) tr))))
(sq (a3 n7 0 1 5 c)
(cd (a4 n6 0 1 5 14 c) tr tr)))))))
(sq (a2 ba 0 1 c)
(cd (a3 bc 0 1 10 c) (sl (a0 aZ c)) tr))))) hp
attribute [simp] n1 n2 n3 n4 n5 n6 n7 n9 aZ bc ba br
end rU
end Go.Proofs.YtjehibknlmehmaaGreatDoor
