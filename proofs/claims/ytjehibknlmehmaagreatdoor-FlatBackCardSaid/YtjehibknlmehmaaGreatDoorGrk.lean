/- Bodies of the document's answer and of the shows; printed. No condition. -/
import Derived.Test.YtjehibknlmehmaaGreatDoorGlk
set_option maxRecDepth 100000
namespace Go.Proofs.YtjehibknlmehmaaGreatDoor
section
open Go.Ab
end
section
open Go.Ab
namespace tT
abbrev rs:List Nat:=[2,3]
def n1:N1:=fun W R _ _ P x4 h=>
aY x4 fun t1=>
ah (some 1) t1 fun t2=>
aC Pg W 32 [t2] h (fun t3 h4=>
R [t3,(.sc (.int .i64 0))] h4) P
def n2:N0:=fun _ R _ _ _ h=>
R [(.sc (.string ⟨#[]⟩)),(.sc (.int .i64 1))] h
def n3:N2:=fun W R N E P x4 jK h=>
aM jK (
n2 W R N E P h) (
n1 W R N E P x4 h)
def n4:N1:=fun W R N E P x4 h=>
aY x4 fun t5=>
ah (some 1) t5 fun t6=>
aC Pg W 31 [t6] h (fun t7 h8=>
ag Pg .gtr 3 true t7 (.sc (.int .i64 65536)) fun t9=>
n3 W R N E P x4 t9 h8) P
def n5:N0:=fun _ R _ _ _ h=>
R [(.sc (.string ⟨#[]⟩)),(.sc (.int .i64 100))] h
def n6:N2:=fun W R N E P x4 aP h=>
aM aP (
n5 W R N E P h) (
n4 W R N E P x4 h)
def n7:N2:=fun W R N E P x0 x4 h=>
(a_ x0=false)/\bO x0 fun t10=>
aC Pg W 30 [x4,(.sc (.int .i64 0)),t10,(.sc (.int .i64 0))] h (fun t11 qy=>
gM .not t11 fun t13=>
n6 W R N E P x4 t13 qy) P
def n8:N1:=fun W R N E P x0 h=>
bZ (some ([.slice none 0 0,.pointer none,.slice none 0 0],.inl [(0,1),(1,2)])) [(0,x0)] fun t14=>
dS 3 77 t14 h fun t15 mz=>
n7 W R N E P x0 t15 mz
def n9:N1:=fun W R N E P x0 h=>
n8 W R N E P x0 h
theorem aO{x0:AV}{h:AH}{M:WK}{R:RK}(hp:n9 (fun id=>M id\/h.next<=id) (aK Pg [.tmp 2,.tmp 3] R) (aK Pg [.tmp 2,.tmp 3] R) (fun _ _ _=>False) (fun v h=>R (.b6 v) h) x0 h):aB Pg 18 [x0] h M R:=
 fin (n:=22) (pl:=[]) (rs:=[.tmp 2,.tmp 3]) (L:=rs) (fun c=>(a1 n9 0 c)) Tryz.mixed Tryz.func18 (fun c=>
(sq (a1 n9 0 c)
(sq (a1 n8 0 c)
(sn
(sn
(sl (a1 n1 4 c))
(sq (a1 n4 4 c)
(cd (a2 n3 4 17 c) (sl (a0 n2 c)) tr)))
(sq (a2 n7 0 4 c)
(cd (a2 n6 4 12 c) (sl (a0 n5 c)) tr)))))) hp
attribute [simp] n1 n2 n3 n4 n5 n6 n7 n8 n9
end tT
namespace eZ
abbrev rs:List Nat:=[8]
def n1:N0:=fun _ R _ _ _ h=>
R [(.sc (.bool true))] h
def n2:N4:=fun _ _ N _ _ x0 x2 x3 aR h=>
N [x0,x2,x3,aR] h
def n3:N4:=fun W R N E P x0 x2 x3 aR h=>
aC Pg W 52 [x0,(.sc (.string ⟨#[125,10]⟩))] h (fun t1 h2=>
n2 W R N E P x0 x2 x3 aR h2) P
def n4:N4:=fun W R N E P x0 x2 x3 aR h=>
aC Pg W 51 [x0,x3] h (fun t3 h4=>
n3 W R N E P x0 x2 x3 aR h4) P
def n5:N0:=fun _ R _ _ _ h=>
R [(.sc (.bool false))] h
def n6:N5:=fun W R N E P x0 x2 x3 aR eo h=>
aM eo (
n5 W R N E P h) (
n4 W R N E P x0 x2 x3 aR h)
def n7:N5:=fun W R N E P x0 x2 x3 x9 aR h=>
ag Pg .add 3 true x9 (.sc (.int .i64 1)) fun t5=>
ag Pg .add 3 true x3 (.sc (.int .i64 1)) fun t6=>
aC Pg W 30 [x0,t5,aR,t6] h (fun t7 h8=>
gM .not t7 fun t9=>
n6 W R N E P x0 x2 x3 aR t9 h8) P
def n8:N6:=fun W R N E P x0 x2 x3 x9 aR AA h=>
aM AA (
n7 W R N E P x0 x2 x3 x9 aR h) (
n2 W R N E P x0 x2 x3 aR h)
def n9:N6:=fun W R N E P x0 x2 x3 x9 ax aR h=>
ah (some 3) ax fun t10=>
al (some false) (some 1) t10 h fun t11 _=>
n8 W R N E P x0 x2 x3 x9 aR t11 h
def aZ:N6:=fun W R N E P x0 x2 x3 x9 au ax h=>
ag Pg .add 3 true x9 (.sc (.int .i64 1)) fun t13=>
ah (some 4) au fun t14=>
al (some false) (some 1) t14 h fun t15 _=>
ag Pg .add 3 false t13 t15 fun t17=>
n9 W R N E P x0 x2 x3 x9 ax t17 h
def bc:N6:=fun W R N E P x0 x2 x3 x9 au ax h=>
al (some true) (some 6) au h fun t18 _=>
al (some true) (some 4) ax h fun t20 _=>
aC Pg W 50 [x0,t18,t20,x3] h (fun t22 DB=>
aZ W R N E P x0 x2 x3 x9 au ax DB) P
def ba:N0:=fun _ R _ _ _ h=>
R [(.sc (.bool false))] h
def br:N7:=fun W R N E P x0 x2 x3 x9 au ax lD h=>
aM lD (
ba W R N E P h) (
bc W R N E P x0 x2 x3 x9 au ax h)
def bF:N8:=fun W R N E P x0 x2 x3 x9 au ax mu Ex h=>
aT mu (.sc (.bool true)) Ex fun t24=>
br W R N E P x0 x2 x3 x9 au ax t24 h
def bM:N9:=fun W R N E P x0 x2 x3 x9 au ax mu dh pQ h=>
bE false mu (
aT dh pQ (.sc (.bool false)) fun t25=>
bF W R N E P x0 x2 x3 x9 au ax mu t25 h) (
bF W R N E P x0 x2 x3 x9 au ax mu aa h)
def bP:N8:=fun W R N E P x0 x2 x3 x9 au ax mu dh h=>
bE true dh (
ag Pg .eql 3 true x3 (.sc (.int .i64 32)) fun t26=>
bM W R N E P x0 x2 x3 x9 au ax mu dh t26 h) (
bM W R N E P x0 x2 x3 x9 au ax mu dh aa h)
def bN:N7:=fun W R N E P x0 x2 x3 x9 au ax mu h=>
bE false mu (
ah (some 3) ax fun t27=>
al (some false) (some 1) t27 h fun t28 _=>
bP W R N E P x0 x2 x3 x9 au ax mu t28 h) (
bP W R N E P x0 x2 x3 x9 au ax mu aa h)
def bW:N8:=fun W R N E P x0 x2 x3 x9 au ax eJ tl h=>
aT eJ (.sc (.bool true)) tl fun t30=>
bN W R N E P x0 x2 x3 x9 au ax t30 h
def bT:N7:=fun W R N E P x0 x2 x3 x9 au ax eJ h=>
bE false eJ (
ag Pg .gtr 3 true x3 (.sc (.int .i64 32)) fun t31=>
bW W R N E P x0 x2 x3 x9 au ax eJ t31 h) (
bW W R N E P x0 x2 x3 x9 au ax eJ aa h)
def bX:N8:=fun W R N E P x0 x2 x3 x9 au ax gv Ey h=>
aT gv (.sc (.bool true)) Ey fun t32=>
bT W R N E P x0 x2 x3 x9 au ax t32 h
def cl:N7:=fun W R N E P x0 x2 x3 x9 au ax gv h=>
bE false gv (
ah (some 4) au fun t33=>
al (some false) (some 1) t33 h fun t34 _=>
ag Pg .sub 3 false x2 x9 fun t36=>
ag Pg .sub 3 true t36 (.sc (.int .i64 1)) fun t37=>
ag Pg .gtr 3 false t34 t37 fun t38=>
bX W R N E P x0 x2 x3 x9 au ax gv t38 h) (
bX W R N E P x0 x2 x3 x9 au ax gv aa h)
def cq:N8:=fun W R N E P x0 x2 x3 x9 au ax vV fA h=>
aT vV (.sc (.bool true)) fA fun t39=>
cl W R N E P x0 x2 x3 x9 au ax t39 h
def cL:N7:=fun W R N E P x0 x2 x3 x9 au ax vV h=>
bE false vV (
ah (some 4) au fun t40=>
al (some false) (some 1) t40 h fun t41 _=>
ag Pg .lss 3 true t41 (.sc (.int .i64 0)) fun t43=>
cq W R N E P x0 x2 x3 x9 au ax vV t43 h) (
cq W R N E P x0 x2 x3 x9 au ax vV aa h)
def cN:N6:=fun W R N E P x0 x2 x3 x9 au ax h=>
al (some true) (some 6) au h fun t44 _=>
aC Pg W 49 [t44] h (fun t46 vD=>
gM .not t46 fun t48=>
cL W R N E P x0 x2 x3 x9 au ax t48 vD) P
def cG:N5:=fun W R N E P x0 x2 x3 x9 au h=>
ah (some 0) au fun t49=>
al (some false) (some 1) t49 h fun t50 _=>
aC Pg W 48 [t50] h (fun t52 vz=>
cf t52 0 fun t54=>
cf t52 1 fun t55=>
bn (some [.bool false,.bool false,.int .i64 0,.bool false]) 4 107 vz fun t56 BB=>
aE (some 4) t56 t54 BB W fun tJ=>
cN W R N E P x0 x2 x3 x9 au t56 tJ) P
def cE:N4:=fun W R N E P x0 x2 x3 x9 h=>
aY x0 fun t59=>
ah (some 0) t59 fun t60=>
al (some false) (some 1) t60 h fun t61 _=>
cj (some (6,none)) t61 x9 fun t63=>
al (some true) (some 6) t63 h fun t64 _=>
bn (some [.string ⟨#[]⟩,.string ⟨#[]⟩,.slice none 0 0,.int .i64 0,.int .i64 0,.int .i64 0]) 6 46 h fun t66 V0=>
aE (some 6) t66 t64 V0 W fun L1=>
cG W R N E P x0 x2 x3 x9 t66 L1
def cV:N5:=fun W R N E P x0 x2 x3 x9 jK h=>
aM jK (
cE W R N E P x0 x2 x3 x9 h) (
E 0 [] h)
def cX:N4:=fun W R N E P x0 x2 x3 x9 h=>
ag Pg .lss 3 false x9 x2 fun t69=>
cV W R N E P x0 x2 x3 x9 t69 h
def cT:GK:=fun W R N E P N' vs h=>cX W R N' (fun(i:Nat) (vs:List AV) (h:AH)=>if i=0 then n1 W R N E P h else E i vs h) P (vs.getD 0 aa) (vs.getD 1 aa) (vs.getD 2 aa) (vs.getD 3 aa) h
def cU:N4:=fun W R N E P x0 x2 x3 x9 h=>
dT (cT W R N E P) [x0,x2,x3,x9] h
def dG:N4:=fun W R N E P x0 x1 x2 x3 h=>
cU W R N E P x0 x2 x3 x1 h
def dV:N4:=fun W R N E P x0 x1 x2 x3 h=>
dG W R N E P x0 x1 x2 x3 h
theorem aO{x0 x1 x2 x3:AV}{h:AH}{M:WK}{R:RK}(hp:dV (fun id=>M id\/h.next<=id) (aK Pg [.tmp 8] R) (aK Pg [.tmp 8] R) (fun _ _ _=>False) (fun v h=>R (.b6 v) h) x0 x1 x2 x3 h):aB Pg 30 [x0,x1,x2,x3] h M R:=
 fin (n:=86) (pl:=[(5,⟨[(none,(fr 0 4)),(some (3,false),(fr 4 3)),(none,(fr 7 2)),(some (8,false),(fr 9 7)),(none,(fr 16 2)),(some (17,false),(fr 18 2)),(none,(fr 20 2)),(some (21,false),(fr 22 3)),(some (24,true),(fr 25 2)),(some (21,false),(fr 27 1)),(none,(fr 28 1))],false,[],[]⟩)]) (rs:=[.tmp 8]) (L:=rs) (fun c=>(a4 dV 0 1 2 3 c)) Tryz.mixed Tryz.func30 (fun c=>
(sq (a4 dV 0 1 2 3 c)
(sn
(sl (a0 n1 c))
(sq (a4 dG 0 1 2 3 c)
(bk 0 (lp [0,2,3,9] rs [(0,[])] (a4 cU 0 2 3 9 c) cT (fun i vs h=>if i=0 then n1 c.W c.R c.N c.E c.P h else c.E i vs h) (.b (.t .o)) fun c=>
(sn
(bk 1 (sq (a4 cE 0 2 3 9 c)
(sq (a5 cG 0 2 3 9 10 c)
(sn
(sq (a6 bc 0 2 3 9 10 11 c)
(sq (a6 aZ 0 2 3 9 10 11 c)
(sn
(sm (a4 n2 0 2 3 13 c))
(sq (a6 n9 0 2 3 9 11 13 c)
(cd (a6 n8 0 2 3 9 13 71 c) (sn
(sq (a4 n4 0 2 3 13 c)
(sm (a4 n3 0 2 3 13 c)))
(sq (a5 n7 0 2 3 9 13 c)
(cd (a5 n6 0 2 3 13 79 c) (sl (a0 n5 c)) tr))) tr)))))
(sn
(cd (a7 br 0 2 3 9 10 11 59 c) (sl (a0 ba c)) tr)
(gr (gn (a6 cN 0 2 3 9 10 11 c) (gx (a7 cL 0 2 3 9 10 11 34 c) (gn (a8 cq 0 2 3 9 10 11 34 37 c) (gx (a7 cl 0 2 3 9 10 11 39 c) (gn (a8 bX 0 2 3 9 10 11 39 46 c) (gx (a7 bT 0 2 3 9 10 11 48 c) (gn (a8 bW 0 2 3 9 10 11 48 50 c) (gx (a7 bN 0 2 3 9 10 11 52 c) (gx (a8 bP 0 2 3 9 10 11 52 55 c) (gx (a9 bM 0 2 3 9 10 11 52 55 57 c) (gl (a8 bF 0 2 3 9 10 11 52 58 c))))))))))))))))))
(sq (a4 cX 0 2 3 9 c)
(cd (a5 cV 0 2 3 9 17 c) tr tr))))))))) hp
attribute [simp] n1 n2 n3 n4 n5 n6 n7 n8 n9 aZ bc ba br bF bM bP bN bW bT bX cl cq cL cN cG cE cV cX dG dV
end eZ
namespace fE
abbrev rs:List Nat:=[2]
def n1:N0:=fun _ R _ _ _ h=>
R [(.sc (.bool true))] h
def n2:N4:=fun _ _ N _ _ x1 gq ep eo h=>
ag Pg .add 3 true eo (.sc (.int .i64 1)) fun t1=>
N [x1,gq,ep,t1] h
def n3:N0:=fun _ R _ _ _ h=>
R [(.sc (.bool false))] h
def n4:N5:=fun W R N E P x1 gq ep eo aao h=>
aM aao (
n3 W R N E P h) (
n2 W R N E P x1 gq ep eo h)
def n5:N6:=fun W R N E P x1 gq ep eo fj vW h=>
aT fj (.sc (.bool true)) vW fun t2=>
n4 W R N E P x1 gq ep eo t2 h
def n6:N7:=fun W R N E P x1 gq ep eo fj ze aap h=>
bE false fj (
aT ze aap (.sc (.bool false)) fun t3=>
n5 W R N E P x1 gq ep eo fj t3 h) (
n5 W R N E P x1 gq ep eo fj aa h)
def n7:N7:=fun W R N E P x1 x6 gq ep eo fj ze h=>
bE true ze (
ah (some 1) x6 fun t4=>
al (some false) (some 1) t4 h fun t5 _=>
ag Pg .neq 3 true t5 (.sc (.int .i64 (-1))) fun t7=>
n6 W R N E P x1 gq ep eo fj ze t7 h) (
n6 W R N E P x1 gq ep eo fj ze aa h)
def n8:N6:=fun W R N E P x1 x6 gq ep eo fj h=>
bE false fj (
ah (some 0) x1 fun t8=>
al (some false) (some 1) t8 h fun t9 _=>
ag Pg .eql 9 true t9 (.sc (.string ⟨#[103,97,116,101]⟩)) fun t11=>
n7 W R N E P x1 x6 gq ep eo fj t11 h) (
n7 W R N E P x1 x6 gq ep eo fj aa h)
def n9:N7:=fun W R N E P x1 x6 gq ep eo vT Tk h=>
aT vT (.sc (.bool true)) Tk fun t12=>
n8 W R N E P x1 x6 gq ep eo t12 h
def aZ:N6:=fun W R N E P x1 x6 gq ep eo vT h=>
bE false vT (
ah (some 1) x6 fun t13=>
al (some false) (some 1) t13 h fun t14 _=>
ag Pg .gtr 3 true t14 (.sc (.int .i64 9007199254740991)) fun t16=>
n9 W R N E P x1 x6 gq ep eo vT t16 h) (
n9 W R N E P x1 x6 gq ep eo vT aa h)
def bc:N7:=fun W R N E P x1 x6 gq ep eo tj Tm h=>
aT tj (.sc (.bool true)) Tm fun t17=>
aZ W R N E P x1 x6 gq ep eo t17 h
def ba:N6:=fun W R N E P x1 x6 gq ep eo tj h=>
bE false tj (
ah (some 1) x6 fun t18=>
al (some false) (some 1) t18 h fun t19 _=>
ag Pg .lss 3 true t19 (.sc (.int .i64 (-1))) fun t21=>
bc W R N E P x1 x6 gq ep eo tj t21 h) (
bc W R N E P x1 x6 gq ep eo tj aa h)
def br:N5:=fun W R N E P x1 x6 gq ep eo h=>
ah (some 0) x6 fun t22=>
al (some false) (some 1) t22 h fun t23 _=>
aC Pg W 80 [t23] h (fun t25 nH=>
gM .not t25 fun t27=>
ba W R N E P x1 x6 gq ep eo t27 nH) P
def bF:N4:=fun W R N E P x1 gq ep eo h=>
cj (some (2,none)) gq eo fun t28=>
al (some true) (some 2) t28 h fun t29 _=>
bn (some [.string ⟨#[]⟩,.int .i64 0]) 2 67 h fun t31 tL=>
aE (some 2) t31 t29 tL W fun H2=>
br W R N E P x1 t31 gq ep eo H2
def bM:N5:=fun W R N E P x1 gq ep eo ms h=>
aM ms (
bF W R N E P x1 gq ep eo h) (
E 0 [] h)
def bP:N4:=fun W R N E P x1 gq ep eo h=>
ag Pg .lss 3 false eo ep fun t34=>
bM W R N E P x1 gq ep eo t34 h
def cT:GK:=fun W R N E P N' vs h=>bP W R N' (fun(i:Nat) (vs:List AV) (h:AH)=>if i=0 then n1 W R N E P h else E i vs h) P (vs.getD 0 aa) (vs.getD 1 aa) (vs.getD 2 aa) (vs.getD 3 aa) h
def bN:N4:=fun W R N E P x1 gq ep eo h=>
dT (cT W R N E P) [x1,gq,ep,eo] h
def bW:N1:=fun W R N E P x1 h=>
ah (some 2) x1 fun t35=>
al (some false) (some 1) t35 h fun t36 _=>
(a_ t36=false)/\bO t36 fun t38=>
bN W R N E P x1 t36 t38 (.sc (.int .i64 0)) h
def bT:N0:=fun _ R _ _ _ h=>
R [(.sc (.bool false))] h
def bX:N2:=fun W R N E P x1 x75 h=>
aM x75 (
bT W R N E P h) (
bW W R N E P x1 h)
def cl:N3:=fun W R N E P x1 lC Tp h=>
aT lC (.sc (.bool true)) Tp fun t39=>
bX W R N E P x1 t39 h
def cq:N4:=fun W R N E P x1 lC qZ Az h=>
bE false lC (
aT qZ Az (.sc (.bool false)) fun t40=>
cl W R N E P x1 lC t40 h) (
cl W R N E P x1 lC aa h)
def cL:N3:=fun W R N E P x1 lC qZ h=>
bE true qZ (
ah (some 4) x1 fun t41=>
al (some false) (some 1) t41 h fun t42 _=>
ag Pg .neq 3 true t42 (.sc (.int .i64 0)) fun t44=>
cq W R N E P x1 lC qZ t44 h) (
cq W R N E P x1 lC qZ aa h)
def cN:N3:=fun W R N E P x1 x3 lC h=>
bE false lC (
ah (some 3) x3 fun t45=>
al (some false) (some 1) t45 h fun t46 _=>
gM .not t46 fun t48=>
cL W R N E P x1 lC t48 h) (
cL W R N E P x1 lC aa h)
def cG:N4:=fun W R N E P x1 x3 cC Ev h=>
aT cC (.sc (.bool true)) Ev fun t49=>
cN W R N E P x1 x3 t49 h
def cE:N5:=fun W R N E P x1 x3 cC pQ AB h=>
bE false cC (
aT pQ AB (.sc (.bool false)) fun t50=>
cG W R N E P x1 x3 cC t50 h) (
cG W R N E P x1 x3 cC aa h)
def cV:N4:=fun W R N E P x1 x3 cC pQ h=>
bE true pQ (
ah (some 2) x1 fun t51=>
al (some false) (some 1) t51 h fun t52 _=>
(a_ t52=false)/\bO t52 fun t54=>
ah (some 2) x3 fun t55=>
al (some false) (some 1) t55 h fun t56 _=>
ag Pg .neq 3 false t54 t56 fun t58=>
cE W R N E P x1 x3 cC pQ t58 h) (
cE W R N E P x1 x3 cC pQ aa h)
def cX:N3:=fun W R N E P x1 x3 cC h=>
bE false cC (
ah (some 2) x3 fun t59=>
al (some false) (some 1) t59 h fun t60 _=>
ag Pg .geq 3 true t60 (.sc (.int .i64 0)) fun t62=>
cV W R N E P x1 x3 cC t62 h) (
cV W R N E P x1 x3 cC aa h)
def cU:N4:=fun W R N E P x1 x3 iS vU h=>
aT iS (.sc (.bool true)) vU fun t63=>
cX W R N E P x1 x3 t63 h
def dG:N5:=fun W R N E P x1 x3 iS jB tl h=>
bE false iS (
aT jB tl (.sc (.bool false)) fun t64=>
cU W R N E P x1 x3 iS t64 h) (
cU W R N E P x1 x3 iS aa h)
def dV:N4:=fun W R N E P x1 x3 iS jB h=>
bE true jB (
ah (some 3) x1 fun t65=>
al (some false) (some 1) t65 h fun t66 _=>
ag Pg .neq 3 true t66 (.sc (.int .i64 0)) fun t68=>
dG W R N E P x1 x3 iS jB t68 h) (
dG W R N E P x1 x3 iS jB aa h)
def ea:N3:=fun W R N E P x1 x3 iS h=>
bE false iS (
ah (some 1) x3 fun t69=>
al (some false) (some 1) t69 h fun t70 _=>
gM .not t70 fun t72=>
dV W R N E P x1 x3 iS t72 h) (
dV W R N E P x1 x3 iS aa h)
def fq:N4:=fun W R N E P x1 x3 fp iT h=>
aT fp (.sc (.bool true)) iT fun t73=>
ea W R N E P x1 x3 t73 h
def jp:N5:=fun W R N E P x1 x3 fp io kH h=>
bE false fp (
aT io kH (.sc (.bool false)) fun t74=>
fq W R N E P x1 x3 fp t74 h) (
fq W R N E P x1 x3 fp aa h)
def jD:N4:=fun W R N E P x1 x3 fp io h=>
bE true io (
ah (some 3) x1 fun t75=>
al (some false) (some 1) t75 h fun t76 _=>
aC Pg yn 81 [t76] h (fun t78 VZ=>
gM .not t78 fun t80=>
jp W R N E P x1 x3 fp io t80 VZ) P) (
jp W R N E P x1 x3 fp io aa h)
def ir:N3:=fun W R N E P x1 x3 fp h=>
bE false fp (
ah (some 1) x3 fun t81=>
al (some false) (some 1) t81 h fun t82 _=>
jD W R N E P x1 x3 fp t82 h) (
jD W R N E P x1 x3 fp aa h)
def jC:N4:=fun W R N E P x1 x3 ns iI h=>
aT ns (.sc (.bool true)) iI fun t84=>
ir W R N E P x1 x3 t84 h
def iV:N5:=fun W R N E P x1 x3 ns eV Ez h=>
bE false ns (
aT eV Ez (.sc (.bool false)) fun t85=>
jC W R N E P x1 x3 ns t85 h) (
jC W R N E P x1 x3 ns aa h)
def j_:N4:=fun W R N E P x1 x3 ns eV h=>
bE true eV (
ah (some 1) x1 fun t86=>
al (some false) (some 1) t86 h fun t87 _=>
ag Pg .neq 9 true t87 (.sc (.string ⟨#[]⟩)) fun t89=>
iV W R N E P x1 x3 ns eV t89 h) (
iV W R N E P x1 x3 ns eV aa h)
def iq:N3:=fun W R N E P x1 x3 ns h=>
bE false ns (
ah (some 0) x3 fun t90=>
al (some false) (some 1) t90 h fun t91 _=>
gM .not t91 fun t93=>
j_ W R N E P x1 x3 ns t93 h) (
j_ W R N E P x1 x3 ns aa h)
def iN:N4:=fun W R N E P x1 x3 dD lE h=>
aT dD (.sc (.bool true)) lE fun t94=>
iq W R N E P x1 x3 t94 h
def jN:N3:=fun W R N E P x1 x3 dD h=>
bE false dD (
ah (some 0) x3 fun t95=>
al (some false) (some 1) t95 h fun t96 _=>
ah (some 1) x1 fun t98=>
al (some false) (some 1) t98 h fun t99 _=>
aC Pg yn 80 [t99] h (fun t101 FV=>
ag Pg .neq 4 false t96 t101 fun t103=>
iN W R N E P x1 x3 dD t103 FV) P) (
iN W R N E P x1 x3 dD aa h)
def jo:N3:=fun W R N E P x1 x3 x4 h=>
gM .not x4 fun t104=>
jN W R N E P x1 x3 t104 h
def jf:N1:=fun W R N E P x1 h=>
ah (some 0) x1 fun t105=>
al (some false) (some 1) t105 h fun t106 _=>
aC Pg W 48 [t106] h (fun t108 On=>
cf t108 0 fun t110=>
cf t108 1 fun t111=>
bn (some [.bool false,.bool false,.int .i64 0,.bool false]) 4 107 On fun t112 Om=>
aE (some 4) t112 t110 Om W fun Ol=>
jo W R N E P x1 t112 t111 Ol) P
def kJ:N1:=fun W R N E P x0 h=>
dS 6 46 x0 h fun t115 Ok=>
jf W R N E P t115 Ok
theorem aO{x0:AV}{h:AH}{M:WK}{R:RK}(hp:kJ (fun id=>M id\/h.next<=id) (aK Pg [.tmp 2] R) (aK Pg [.tmp 2] R) (fun _ _ _=>False) (fun v h=>R (.b6 v) h) x0 h):aB Pg 49 [x0] h M R:=
 fin (n:=108) (pl:=[(2,⟨[(none,(fr 0 3)),(some (2,false),(fr 3 6)),(none,(fr 9 2)),(some (10,false),(fr 11 4)),(some (14,true),(fr 15 3)),(some (10,false),(fr 18 1)),(none,(fr 19 2)),(some (20,false),(fr 21 3)),(some (23,true),(fr 24 4)),(some (20,false),(fr 28 1)),(none,(fr 29 2)),(some (30,false),(fr 31 4)),(some (34,true),(fr 35 3)),(some (30,false),(fr 38 1)),(none,(fr 39 2)),(some (40,false),(fr 41 4)),(some (44,true),(fr 45 6)),(some (40,false),(fr 51 1)),(none,(fr 52 2)),(some (53,false),(fr 54 4)),(some (57,true),(fr 58 3)),(some (53,false),(fr 61 1)),(none,(fr 62 1))],false,[],[7,26]⟩),(7,⟨[(none,(fr 0 5)),(some (4,false),(fr 5 3)),(none,(fr 8 2)),(some (9,false),(fr 10 3)),(none,(fr 13 2)),(some (14,false),(fr 15 4)),(some (18,true),(fr 19 3)),(some (14,false),(fr 22 1)),(none,(fr 23 1))],false,[],[]⟩)]) (rs:=[.tmp 2]) (L:=rs) (fun c=>(a1 kJ 0 c)) Tryz.mixed Tryz.func49 (fun c=>
(sq (a1 kJ 0 c)
(sq (a1 jf 1 c)
(sn
(sn
(sl (a0 n1 c))
(sq (a1 bW 1 c)
(bk 0 (lp [1,77,78,79] rs [(0,[])] (a4 bN 1 77 78 79 c) cT (fun i vs h=>if i=0 then n1 c.W c.R c.N c.E c.P h else c.E i vs h) (.b (.t .o)) fun c=>
(sq (a4 bP 1 77 78 79 c)
(sn
(sn
(sm (a4 n2 1 77 78 79 c))
(bk 1 (sq (a4 bF 1 77 78 79 c)
(sn
(cd (a5 n4 1 77 78 79 106 c) (sl (a0 n3 c)) tr)
(gr (gn (a5 br 1 6 77 78 79 c) (gx (a6 ba 1 6 77 78 79 87 c) (gn (a7 bc 1 6 77 78 79 87 90 c) (gx (a6 aZ 1 6 77 78 79 92 c) (gn (a7 n9 1 6 77 78 79 92 95 c) (gx (a6 n8 1 6 77 78 79 97 c) (gx (a7 n7 1 6 77 78 79 97 101 c) (gx (a7 n6 1 77 78 79 97 101 104 c) (gl (a6 n5 1 77 78 79 97 105 c)))))))))))))))
(cd (a5 bM 1 77 78 79 80 c) tr tr)))))))
(sn
(cd (a2 bX 1 75 c) (sl (a0 bT c)) tr)
(gr (gn (a3 jo 1 3 4 c) (gx (a3 jN 1 3 15 c) (gn (a4 iN 1 3 15 21 c) (gx (a3 iq 1 3 23 c) (gx (a4 j_ 1 3 23 27 c) (gx (a5 iV 1 3 23 27 30 c) (gn (a4 jC 1 3 23 31 c) (gx (a3 ir 1 3 33 c) (gx (a4 jD 1 3 33 36 c) (gx (a5 jp 1 3 33 36 40 c) (gn (a4 fq 1 3 33 41 c) (gx (a3 ea 1 3 43 c) (gx (a4 dV 1 3 43 47 c) (gx (a5 dG 1 3 43 47 50 c) (gn (a4 cU 1 3 43 51 c) (gx (a3 cX 1 3 53 c) (gx (a4 cV 1 3 53 57 c) (gx (a5 cE 1 3 53 57 63 c) (gn (a4 cG 1 3 53 64 c) (gx (a3 cN 1 3 66 c) (gx (a3 cL 1 66 70 c) (gx (a4 cq 1 66 70 73 c) (gl (a3 cl 1 66 74 c)))))))))))))))))))))))))))))) hp
attribute [simp] n1 n2 n3 n4 n5 n6 n7 n8 n9 aZ bc ba br bF bM bP bW bT bX cl cq cL cN cG cE cV cX cU dG dV ea fq jp jD ir jC iV j_ iq iN jN jo jf kJ
end fE
namespace iH
abbrev rs:List Nat:=[]
def n1:N2:=fun W _ N _ P x0 gJ h=>
aM gJ (
aC Pg W 52 [x0,(.sc (.string ⟨#[32,123,10]⟩))] h (fun t1 h2=>
N [] h2) P) (
aC Pg W 52 [x0,(.sc (.string ⟨#[59,10]⟩))] h (fun t3 h4=>
N [] h4) P)
def n2:N2:=fun W R N E P x0 x6 h=>
ah (some 3) x6 fun t5=>
al (some false) (some 1) t5 h fun t6 _=>
n1 W R N E P x0 t6 h
def n3:N3:=fun W R N E P x0 x6 x8 h=>
aC Pg W 82 [x8,(.sc (.string ⟨#[32]⟩))] h (fun t8 h9=>
aC Pg W 52 [x0,t8] h9 (fun t10 qz=>
n2 W R N E P x0 x6 qz) P) P
def n4:N6:=fun _ _ N _ _ x0 x6 x8 gK gv kH h=>
ag Pg .add 3 true kH (.sc (.int .i64 1)) fun t12=>
N [x0,x6,x8,gK,gv,t12] h
def n5:N7:=fun W R N E P x0 x6 x8 au gK gv kH h=>
ah (some 0) au fun t13=>
al (some false) (some 1) t13 h fun t14 _=>
ag Pg .add 9 true t14 (.sc (.string ⟨#[91]⟩)) fun t16=>
ah (some 1) au fun t17=>
al (some false) (some 1) t17 h fun t18 _=>
aC Pg yn 29 [t18] h (fun t20 vI=>
ag Pg .add 9 false t16 t20 fun t22=>
ag Pg .add 9 true t22 (.sc (.string ⟨#[93]⟩)) fun t23=>
dK (some (1,9,[.string ⟨#[]⟩])) 1 [(0,t23)] vI fun t24 vG=>
eh (some (1,16,9)) x8 t24 vG W fun t26 yR=>
n4 W R N E P x0 x6 t26 gK gv kH yR) P
def n6:N8:=fun W R N E P x0 x6 x8 au gK gv kH Ey h=>
aM Ey (
n5 W R N E P x0 x6 x8 au gK gv kH h) (
ah (some 0) au fun t28=>
al (some false) (some 1) t28 h fun t29 _=>
dK (some (1,9,[.string ⟨#[]⟩])) 1 [(0,t29)] h fun t31 tL=>
eh (some (1,16,9)) x8 t31 tL W fun t33 yQ=>
n4 W R N E P x0 x6 t33 gK gv kH yQ)
def n7:N7:=fun W R N E P x0 x6 x8 au gK gv kH h=>
ah (some 1) au fun t35=>
al (some false) (some 1) t35 h fun t36 _=>
ag Pg .geq 3 true t36 (.sc (.int .i64 0)) fun t38=>
n6 W R N E P x0 x6 x8 au gK gv kH t38 h
def n8:N6:=fun W R N E P x0 x6 x8 gK gv kH h=>
cj (some (2,none)) gK kH fun t39=>
al (some true) (some 2) t39 h fun t40 _=>
bn (some [.string ⟨#[]⟩,.int .i64 0]) 2 67 h fun t42 QL=>
aE (some 2) t42 t40 QL W fun yN=>
n7 W R N E P x0 x6 x8 t42 gK gv kH yN
def n9:N7:=fun W R N E P x0 x6 x8 gK gv kH iT h=>
aM iT (
n8 W R N E P x0 x6 x8 gK gv kH h) (
E 0 [x0,x6,x8] h)
def aZ:N6:=fun W R N E P x0 x6 x8 gK gv kH h=>
ag Pg .lss 3 false kH gv fun t45=>
n9 W R N E P x0 x6 x8 gK gv kH t45 h
def cT:GK:=fun W R N E P N' vs h=>aZ W R N' (fun(i:Nat) (vs:List AV) (h:AH)=>if i=0 then n3 W R N E P (vs.getD 0 aa) (vs.getD 1 aa) (vs.getD 2 aa) h else E i vs h) P (vs.getD 0 aa) (vs.getD 1 aa) (vs.getD 2 aa) (vs.getD 3 aa) (vs.getD 4 aa) (vs.getD 5 aa) h
def bc:N6:=fun W R N E P x0 x6 x8 gK gv kH h=>
dT (cT W R N E P) [x0,x6,x8,gK,gv,kH] h
def ba:N4:=fun W R N E P x0 x5 x6 x8 h=>
ah (some 2) x5 fun t46=>
al (some false) (some 1) t46 h fun t47 _=>
(a_ t47=false)/\bO t47 fun t49=>
bc W R N E P x0 x6 x8 t47 t49 (.sc (.int .i64 0)) h
def br:N5:=fun W R N E P x0 x5 x6 x8 Ez h=>
aM Ez (
ah (some 3) x5 fun t50=>
al (some false) (some 1) t50 h fun t51 _=>
aC Pg W 29 [t51] h (fun t53 Dy=>
dK (some (1,9,[.string ⟨#[]⟩])) 1 [(0,t53)] Dy fun t55 FQ=>
eh (some (1,16,9)) x8 t55 FQ W fun t57 tJ=>
ba W R N E P x0 x5 x6 t57 tJ) P) (
ba W R N E P x0 x5 x6 x8 h)
def bF:N4:=fun W R N E P x0 x5 x6 x8 h=>
ah (some 1) x6 fun t59=>
al (some false) (some 1) t59 h fun t60 _=>
br W R N E P x0 x5 x6 x8 t60 h
def bM:N5:=fun W R N E P x0 x5 x6 x8 ns h=>
aM ns (
ah (some 1) x5 fun t62=>
al (some false) (some 1) t62 h fun t63 _=>
dK (some (1,9,[.string ⟨#[]⟩])) 1 [(0,t63)] h fun t65 L2=>
eh (some (1,16,9)) x8 t65 L2 W fun t67 L1=>
bF W R N E P x0 x5 x6 t67 L1) (
bF W R N E P x0 x5 x6 x8 h)
def bP:N4:=fun W R N E P x0 x5 x6 x8 h=>
ah (some 0) x6 fun t69=>
al (some false) (some 1) t69 h fun t70 _=>
bM W R N E P x0 x5 x6 x8 t70 h
def bN:N5:=fun W R N E P x0 x5 x6 x8 dM h=>
aM dM (
ah (some 0) x5 fun t72=>
al (some false) (some 1) t72 h fun t73 _=>
dK (some (1,9,[.string ⟨#[]⟩])) 1 [(0,t73)] h fun t75 FM=>
eh (some (1,16,9)) x8 t75 FM W fun t77 By=>
bP W R N E P x0 x5 x6 t77 By) (
bP W R N E P x0 x5 x6 x8 h)
def bW:N4:=fun W R N E P x0 x5 x6 x8 h=>
ah (some 0) x5 fun t79=>
al (some false) (some 1) t79 h fun t80 _=>
ag Pg .neq 9 true t80 (.sc (.string ⟨#[117,115,101]⟩)) fun t82=>
bN W R N E P x0 x5 x6 x8 t82 h
def bT:N3:=fun W R N E P x0 x5 x6 h=>
bW W R N E P x0 x5 x6 (.sc (.slice none 0 0)) h
def bX:N4:=fun W R N E P x0 x3 x5 x6 h=>
aC Pg W 51 [x0,x3] h (fun t83 FK=>
bT W R N E P x0 x5 x6 FK) P
def cl:N4:=fun W R N E P x0 x1 x2 x3 h=>
dS 6 46 x1 h fun t85 FJ=>
dS 4 107 x2 FJ fun t87 VX=>
bX W R N E P x0 x3 t85 t87 VX
theorem aO{x0 x1 x2 x3:AV}{h:AH}{M:WK}{R:RK}(hp:cl (fun id=>M id\/h.next<=id) (aK Pg [] R) (aK Pg [] R) (fun _ _ _=>False) (fun v h=>R (.b6 v) h) x0 x1 x2 x3 h):aB Pg 50 [x0,x1,x2,x3] h M R:=
 fin (n:=74) (pl:=[(13,⟨[(none,(fr 0 12))],false,[],[6]⟩)]) (rs:=[]) (L:=rs) (fun c=>(a4 cl 0 1 2 3 c)) Tryz.mixed Tryz.func50 (fun c=>
(sq (a4 cl 0 1 2 3 c)
(sq (a4 bX 0 3 5 6 c)
(sq (a3 bT 0 5 6 c)
(sn
(sn
(sn
(sn
(sq (a3 n3 0 6 8 c)
(sq (a2 n2 0 6 c)
(cd (a2 n1 0 69 c) tr tr)))
(sq (a4 ba 0 5 6 8 c)
(bk 0 (lp [0,6,8,38,39,40] rs [(0,[0,6,8])] (a6 bc 0 6 8 38 39 40 c) cT (fun i vs h=>if i=0 then n3 c.W c.R c.N c.E c.P (vs.getD 0 aa) (vs.getD 1 aa) (vs.getD 2 aa) h else c.E i vs h) (.b (.t .o)) fun c=>
(sq (a6 aZ 0 6 8 38 39 40 c)
(sn
(sn
(sm (a6 n4 0 6 8 38 39 40 c))
(bk 1 (sq (a6 n8 0 6 8 38 39 40 c)
(sq (a7 n7 0 6 8 10 38 39 40 c)
(cd (a8 n6 0 6 8 10 38 39 40 46 c) (gr (gl (a7 n5 0 6 8 10 38 39 40 c))) tr)))))
(cd (a7 n9 0 6 8 38 39 40 41 c) tr tr)))))))
(sq (a4 bF 0 5 6 8 c)
(cd (a5 br 0 5 6 8 30 c) tr tr)))
(sq (a4 bP 0 5 6 8 c)
(cd (a5 bM 0 5 6 8 23 c) tr tr)))
(sq (a4 bW 0 5 6 8 c)
(cd (a5 bN 0 5 6 8 16 c) tr tr))))))) hp
attribute [simp] n1 n2 n3 n4 n5 n6 n7 n8 n9 aZ ba br bF bM bP bN bW bT bX cl
end iH
namespace W5
abbrev rs:List Nat:=[]
def n1:N2:=fun W _ N _ P x0 x1 h=>
aC Pg W 83 [(.sc (.string ⟨#[32,32]⟩)),x1] h (fun t1 h2=>
aC Pg W 52 [x0,t1] h2 (fun t3 h4=>
N [] h4) P) P
theorem aO{x0 x1:AV}{h:AH}{M:WK}{R:RK}(hp:n1 (fun id=>M id\/h.next<=id) (aK Pg [] R) (aK Pg [] R) (fun _ _ _=>False) (fun v h=>R (.b6 v) h) x0 x1 h):aB Pg 51 [x0,x1] h M R:=
 fin (n:=8) (pl:=[]) (rs:=[]) (L:=rs) (fun c=>(a2 n1 0 1 c)) Tryz.mixed Tryz.func51 (fun c=>
(sm (a2 n1 0 1 c))) hp
attribute [simp] n1
end W5
namespace MI
abbrev rs:List Nat:=[]
def n1:N3:=fun W _ N _ P x0 x1 x8 h=>
aM x8 (
aY x0 fun t1=>
ah (some 1) t1 fun t2=>
aC Pg W 84 [t2,x1] h (fun t3 h4=>
N [] h4) P) (
N [] h)
def n2:N2:=fun W R N E P x0 x1 h=>
aY x0 fun t5=>
ah (some 1) t5 fun t6=>
aC Pg W 31 [t6] h (fun t7 h8=>
ag Pg .leq 3 true t7 (.sc (.int .i64 65536)) fun t9=>
n1 W R N E P x0 x1 t9 h8) P
theorem aO{x0 x1:AV}{h:AH}{M:WK}{R:RK}(hp:n2 (fun id=>M id\/h.next<=id) (aK Pg [] R) (aK Pg [] R) (fun _ _ _=>False) (fun v h=>R (.b6 v) h) x0 x1 h):aB Pg 52 [x0,x1] h M R:=
 fin (n:=14) (pl:=[]) (rs:=[]) (L:=rs) (fun c=>(a2 n2 0 1 c)) Tryz.mixed Tryz.func52 (fun c=>
(sq (a2 n2 0 1 c)
(cd (a3 n1 0 1 8 c) tr tr))) hp
attribute [simp] n1 n2
end MI
end
section
open Go.Ab
namespace F5
abbrev rs:List Nat:=[0]
def n1:N1:=fun _ R _ _ _ x0 h=>
R [x0] h
def n2:N2:=fun W R N E P Et vT h=>
aT Et vT (.sc (.bool false)) fun t1=>
n1 W R N E P t1 h
def n3:N2:=fun W R N E P x1 Et h=>
bE true Et (
ah (some 2) x1 fun t2=>
al (some false) (some 1) t2 h fun t3 _=>
cj (some (7,none)) t3 (.sc (.int .i64 1)) fun t5=>
ah (some 6) t5 fun t6=>
al (some false) (some 1) t6 h fun t7 _=>
ag Pg .eql 36 true t7 (.sc (.int .u64 4)) fun t9=>
n2 W R N E P Et t9 h) (
n2 W R N E P Et aa h)
def n4:N3:=fun W R N E P x1 ep x84 h=>
aT ep x84 (.sc (.bool false)) fun t10=>
n3 W R N E P x1 t10 h
def n5:N2:=fun W R N E P x1 ep h=>
bE true ep (
ah (some 2) x1 fun t11=>
al (some false) (some 1) t11 h fun t12 _=>
cj (some (7,none)) t12 (.sc (.int .i64 1)) fun t14=>
ah (some 5) t14 fun t15=>
al (some false) (some 1) t15 h fun t16 _=>
ag Pg .eql 36 true t16 (.sc (.int .u64 4)) fun t18=>
n4 W R N E P x1 ep t18 h) (
n4 W R N E P x1 ep aa h)
def n6:N3:=fun W R N E P x1 AA To h=>
aT AA To (.sc (.bool false)) fun t19=>
n5 W R N E P x1 t19 h
def n7:N2:=fun W R N E P x1 AA h=>
bE true AA (
ah (some 2) x1 fun t20=>
al (some false) (some 1) t20 h fun t21 _=>
cj (some (7,none)) t21 (.sc (.int .i64 1)) fun t23=>
ah (some 4) t23 fun t24=>
al (some false) (some 1) t24 h fun t25 _=>
n6 W R N E P x1 AA t25 h) (
n6 W R N E P x1 AA aa h)
def n8:N3:=fun W R N E P x1 AB gJ h=>
aT AB gJ (.sc (.bool false)) fun t27=>
n7 W R N E P x1 t27 h
def n9:N2:=fun W R N E P x1 AB h=>
bE true AB (
ah (some 2) x1 fun t28=>
al (some false) (some 1) t28 h fun t29 _=>
cj (some (7,none)) t29 (.sc (.int .i64 0)) fun t31=>
ah (some 3) t31 fun t32=>
al (some false) (some 1) t32 h fun t33 _=>
ag Pg .eql 3 true t33 (.sc (.int .i64 2)) fun t35=>
n8 W R N E P x1 AB t35 h) (
n8 W R N E P x1 AB aa h)
def aZ:N3:=fun W R N E P x1 pQ kV h=>
aT pQ kV (.sc (.bool false)) fun t36=>
n9 W R N E P x1 t36 h
def bc:N2:=fun W R N E P x1 pQ h=>
bE true pQ (
ah (some 2) x1 fun t37=>
al (some false) (some 1) t37 h fun t38 _=>
(a_ t38=false)/\bO t38 fun t40=>
ag Pg .eql 3 true t40 (.sc (.int .i64 2)) fun t41=>
aZ W R N E P x1 pQ t41 h) (
aZ W R N E P x1 pQ aa h)
def ba:N3:=fun W R N E P x1 mu dh h=>
aT mu dh (.sc (.bool false)) fun t42=>
bc W R N E P x1 t42 h
def br:N2:=fun W R N E P x1 mu h=>
bE true mu (
ah (some 1) x1 fun t43=>
al (some false) (some 1) t43 h fun t44 _=>
ag Pg .eql 3 true t44 (.sc (.int .i64 3)) fun t46=>
ba W R N E P x1 mu t46 h) (
ba W R N E P x1 mu aa h)
def bF:N1:=fun W R N E P x1 h=>
ah (some 0) x1 fun t47=>
al (some false) (some 1) t47 h fun t48 _=>
ag Pg .eql 3 true t48 (.sc (.int .i64 1)) fun t50=>
br W R N E P x1 t50 h
def bM:N0:=fun _ R _ _ _ h=>
R [(.sc (.bool false))] h
def bP:N2:=fun W R N E P x1 eJ h=>
aM eJ (
bM W R N E P h) (
bF W R N E P x1 h)
def bN:N3:=fun W R N E P x1 gu jB h=>
aT gu (.sc (.bool true)) jB fun t51=>
bP W R N E P x1 t51 h
def bW:N3:=fun W R N E P x1 x8 gu h=>
bE false gu (
ag Pg .neq 3 true x8 (.sc (.int .i64 26)) fun t52=>
bN W R N E P x1 gu t52 h) (
bN W R N E P x1 gu aa h)
def bT:N4:=fun W R N E P x1 x8 iT iS h=>
aT iT (.sc (.bool true)) iS fun t53=>
bW W R N E P x1 x8 t53 h
def bX:N4:=fun W R N E P x1 x8 x9 iT h=>
bE false iT (
ag Pg .neq 28 true x9 (.sc (.int .i64 115)) fun t54=>
bT W R N E P x1 x8 iT t54 h) (
bT W R N E P x1 x8 iT aa h)
def cl:N5:=fun W R N E P x1 x8 x9 fA gv h=>
aT fA (.sc (.bool true)) gv fun t55=>
bX W R N E P x1 x8 x9 t55 h
def cq:N5:=fun W R N E P x1 x5 x8 x9 fA h=>
bE false fA (
ag Pg .neq 3 true x5 (.sc (.int .i64 11)) fun t56=>
cl W R N E P x1 x8 x9 fA t56 h) (
cl W R N E P x1 x8 x9 fA aa h)
def cL:N6:=fun W R N E P x1 x5 x8 x9 fp oF h=>
aT fp (.sc (.bool true)) oF fun t57=>
cq W R N E P x1 x5 x8 x9 t57 h
def cN:N6:=fun W R N E P x1 x5 x6 x8 x9 fp h=>
bE false fp (
ag Pg .neq 28 true x6 (.sc (.int .i64 114)) fun t58=>
cL W R N E P x1 x5 x8 x9 fp t58 h) (
cL W R N E P x1 x5 x8 x9 fp aa h)
def cG:N7:=fun W R N E P x1 x5 x6 x8 x9 ic iI h=>
aT ic (.sc (.bool true)) iI fun t59=>
cN W R N E P x1 x5 x6 x8 x9 t59 h
def cE:N7:=fun W R N E P x1 x2 x5 x6 x8 x9 ic h=>
bE false ic (
ag Pg .neq 3 true x2 (.sc (.int .i64 0)) fun t60=>
cG W R N E P x1 x5 x6 x8 x9 ic t60 h) (
cG W R N E P x1 x5 x6 x8 x9 ic aa h)
def cV:N8:=fun W R N E P x1 x2 x5 x6 x8 x9 pR eV h=>
aT pR (.sc (.bool true)) eV fun t61=>
cE W R N E P x1 x2 x5 x6 x8 x9 t61 h
def cX:N8:=fun W R N E P x1 x2 x3 x5 x6 x8 x9 pR h=>
bE false pR (
ag Pg .neq 28 true x3 (.sc (.int .i64 0)) fun t62=>
cV W R N E P x1 x2 x5 x6 x8 x9 pR t62 h) (
cV W R N E P x1 x2 x5 x6 x8 x9 pR aa h)
def cU:N7:=fun W R N E P x1 x2 x3 x5 x6 x8 x9 h=>
cX W R N E P x1 x2 x3 x5 x6 x8 x9 (.sc (.bool false)) h
def dG:N5:=fun W R N E P x1 x2 x3 x5 x6 h=>
aC Pg W 8 [(.sc (.string ⟨#[113,117,98,105,116,115,32,113,32,49,59,32,114,101,112,101,97,116,32,53,48,48,48,32,123,32,120,32,113,91,48,93,59,32,125]⟩))] h (fun t63 FP=>
cf t63 0 fun t65=>
cf t63 1 fun t66=>
cf t63 2 fun t67=>
bn (some [.int .i64 0,.int .i64 0,.slice none 0 0]) 3 24 FP fun t68 LZ=>
aE (some 3) t68 t65 LZ W fun FO=>
cU W R N E P x1 x2 x3 x5 x6 t66 t67 FO) P
def dV:N3:=fun W R N E P x1 x2 x3 h=>
aC Pg W 8 [(.sc (.string ⟨#[103,97,116,101,32,103,32,120,32,123,32,103,32,120,59,32,125]⟩))] h (fun t71 Bz=>
cf t71 0 fun t73=>
cf t71 1 fun t74=>
cf t71 2 fun t75=>
bn (some [.int .i64 0,.int .i64 0,.slice none 0 0]) 3 24 Bz fun t76 h77=>
aE (some 3) t76 t73 h77 W fun By=>
dG W R N E P x1 x2 x3 t74 t75 By) P
def ea:N0:=fun W R N E P h=>
aC Pg W 8 [(.sc (.string ⟨#[113,117,98,105,116,115,32,113,32,49,59,32,98,105,116,115,32,99,32,50,59,32,98,105,116,115,32,100,32,49,59,32,109,101,97,115,117,114,101,32,113,91,48,93,32,100,91,48,93,59,32,105,102,32,100,32,49,32,123,32,120,32,113,91,48,93,59,32,125]⟩))] h (fun t79 FL=>
cf t79 0 fun t81=>
cf t79 1 fun t82=>
cf t79 2 fun t83=>
bn (some [.int .i64 0,.int .i64 0,.slice none 0 0]) 3 24 FL fun t84 Bx=>
aE (some 3) t84 t81 Bx W fun FJ=>
dV W R N E P t84 t82 t83 FJ) P
def fq:N0:=fun W R N E P h=>
ea W R N E P h
theorem aO{h:AH}{M:WK}{R:RK}(hp:fq (fun id=>M id\/h.next<=id) (aK Pg [.tmp 0] R) (aK Pg [.tmp 0] R) (fun _ _ _=>False) (fun v h=>R (.b6 v) h) h):aB Pg 5 [] h M R:=
 fin (n:=94) (pl:=[(4,⟨[(none,(fr 0 1)),(some (0,false),(fr 1 2)),(none,(fr 3 2)),(some (4,false),(fr 5 2)),(none,(fr 7 2)),(some (8,false),(fr 9 2)),(none,(fr 11 2)),(some (12,false),(fr 13 2)),(none,(fr 15 2)),(some (16,false),(fr 17 2)),(none,(fr 19 2)),(some (20,false),(fr 21 2)),(none,(fr 23 1))],false,[],[]⟩),(6,⟨[(none,(fr 0 4)),(some (3,true),(fr 4 3)),(none,(fr 7 2)),(some (8,true),(fr 9 4)),(none,(fr 13 2)),(some (14,true),(fr 15 6)),(none,(fr 21 2)),(some (22,true),(fr 23 5)),(none,(fr 28 2)),(some (29,true),(fr 30 6)),(none,(fr 36 2)),(some (37,true),(fr 38 6)),(none,(fr 44 2))],false,[],[]⟩)]) (rs:=[.tmp 0]) (L:=rs) (fun c=>(a0 fq c)) Tryz.mixed Tryz.func5 (fun c=>
(sq (a0 fq c)
(sq (a0 ea c)
(sq (a3 dV 1 2 3 c)
(sq (a5 dG 1 2 3 5 6 c)
(sn
(sn
(sm (a1 n1 0 c))
(gr (gn (a1 bF 1 c) (gx (a2 br 1 52 c) (gn (a3 ba 1 52 55 c) (gx (a2 bc 1 57 c) (gn (a3 aZ 1 57 61 c) (gx (a2 n9 1 63 c) (gn (a3 n8 1 63 69 c) (gx (a2 n7 1 71 c) (gn (a3 n6 1 71 76 c) (gx (a2 n5 1 78 c) (gn (a3 n4 1 78 84 c) (gx (a2 n3 1 86 c) (gl (a2 n2 86 92 c))))))))))))))))
(sn
(cd (a2 bP 1 48 c) (sl (a0 bM c)) tr)
(gr (gn (a7 cU 1 2 3 5 6 8 9 c) (gx (a8 cX 1 2 3 5 6 8 9 25 c) (gn (a8 cV 1 2 5 6 8 9 25 27 c) (gx (a7 cE 1 2 5 6 8 9 29 c) (gn (a7 cG 1 5 6 8 9 29 31 c) (gx (a6 cN 1 5 6 8 9 33 c) (gn (a6 cL 1 5 8 9 33 35 c) (gx (a5 cq 1 5 8 9 37 c) (gn (a5 cl 1 8 9 37 39 c) (gx (a4 bX 1 8 9 41 c) (gn (a4 bT 1 8 41 43 c) (gx (a3 bW 1 8 45 c) (gl (a3 bN 1 45 47 c)))))))))))))))))))))) hp
attribute [simp] n1 n2 n3 n4 n5 n6 n7 n8 n9 aZ bc ba br bF bM bP bN bW bT bX cl cq cL cN cG cE cV cX cU dG dV ea fq
end F5
namespace F8
abbrev rs:List Nat:=[2,3,4]
def n1:N2:=fun W R _ _ P x2 x5 h=>
aC Pg W 20 [x5] h (fun t1 h2=>
cf t1 0 fun t3=>
cf t1 1 fun t4=>
cf t1 2 fun t5=>
aE (some 3) x2 t3 h2 W fun h6=>
R [x2,t4,t5] h6) P
def n2:N3:=fun W R _ _ _ x2 x6 x7 h=>
bZ (some ([.int .i64 0,.int .i64 0,.slice none 0 0],.inl [(0,1),(1,1),(2,1)])) [] fun t7=>
aE (some 3) x2 t7 h W fun h8=>
R [x2,x6,x7] h8
def n3:N5:=fun W R N E P x2 x5 x6 x7 dD h=>
aM dD (
n2 W R N E P x2 x6 x7 h) (
n1 W R N E P x2 x5 h)
def n4:N4:=fun W R N E P x2 x5 x6 x7 h=>
ag Pg .neq 28 true x7 (.sc (.int .i64 0)) fun t9=>
n3 W R N E P x2 x5 x6 x7 t9 h
def n5:N2:=fun W R N E P x0 x2 h=>
aC Pg W 19 [x0] h (fun t10 qz=>
cf t10 0 fun t12=>
cf t10 1 fun t13=>
cf t10 2 fun t14=>
n4 W R N E P x2 t12 t13 t14 qz) P
def n6:N1:=fun W R N E P x0 h=>
bn (some [.int .i64 0,.int .i64 0,.slice none 0 0]) 3 24 h fun t15 mz=>
n5 W R N E P x0 t15 mz
theorem aO{x0:AV}{h:AH}{M:WK}{R:RK}(hp:n6 (fun id=>M id\/h.next<=id) (aK Pg [.cell 2 24,.tmp 3,.tmp 4] R) (aK Pg [.cell 2 24,.tmp 3,.tmp 4] R) (fun _ _ _=>False) (fun v h=>R (.b6 v) h) x0 h):aB Pg 8 [x0] h M R:=
 fin (n:=24) (pl:=[]) (rs:=[.cell 2 24,.tmp 3,.tmp 4]) (L:=rs) (fun c=>(a1 n6 0 c)) Tryz.mixed Tryz.func8 (fun c=>
(sq (a1 n6 0 c)
(sq (a2 n5 0 2 c)
(sn
(sl (a2 n1 2 5 c))
(sq (a4 n4 2 5 6 7 c)
(cd (a5 n3 2 5 6 7 15 c) (sl (a3 n2 2 6 7 c)) tr)))))) hp
attribute [simp] n1 n2 n3 n4 n5 n6
end F8
end
section
open Go.Ab
end
section
open Go.Ab
namespace F31
def pl:dz:=[]
def k1:OK:=fun _ Q _ s h=>
aY (s.tm 0) fun t1=>
ah (some 1) t1 fun t2=>
al (some false) (some 1) t2 h fun t3 _=>
(a_ t3=false)/\bO t3 fun t5=>
Q .ret ⟨ai s.tm [(3,(s.tm 0)),(4,t1),(5,t2),(6,t3),(7,t5),(2,t5)],s.ds⟩ h
def k2:OK:=fun W Q QP s h=>
k1 W Q QP ⟨ai s.tm [(2,(.sc (.int .i64 0)))],s.ds⟩ h
theorem calls{x0:AV}{h:AH}{M:WK}{R:RK}(hp:k2 (fun id=>M id\/h.next<=id) (cM Pg [.tmp 2] R) (bx R) (s0 [x0]) h):aB Pg 31 [x0] h M R:=
 mA (n:=8) (pl:=pl) k2 Tryz.mixed Tryz.func31 (fun W Q QP=>
(sq (k2 W Q QP)
(sl (k1 W Q QP)))) hp
attribute [simp] k1 k2
end F31
namespace F48
def pl:dz:=[]
def k1:OK:=fun W Q _ s h=>
bZ (some ([.bool false,.bool false,.int .i64 0,.bool false],.inl [(0,1),(1,1),(2,1),(3,1)])) [] fun t1=>
aE (some 4) (s.tm 2) t1 h W fun h2=>
Q .ret ⟨ai s.tm [(27,t1),(3,(.sc (.bool false)))],s.ds⟩ h2
def k2:OK:=fun W Q _ s h=>
bZ (some ([.bool false,.bool false,.int .i64 0,.bool false],.inl [(0,1),(1,1),(2,1),(3,1)])) [(0,(.sc (.bool true))),(1,(.sc (.bool true)))] fun t3=>
aE (some 4) (s.tm 2) t3 h W fun h4=>
Q .ret ⟨ai s.tm [(8,t3),(3,(.sc (.bool true)))],s.ds⟩ h4
def k3:OK:=fun W Q _ s h=>
bZ (some ([.bool false,.bool false,.int .i64 0,.bool false],.inl [(0,1),(1,1),(2,1),(3,1)])) [(0,(.sc (.bool true))),(2,(.sc (.int .i64 (-1)))),(3,(.sc (.bool true)))] fun t5=>
aE (some 4) (s.tm 2) t5 h W fun h6=>
Q .ret ⟨ai s.tm [(11,t5),(3,(.sc (.bool true)))],s.ds⟩ h6
def k4:OK:=fun W Q _ s h=>
bZ (some ([.bool false,.bool false,.int .i64 0,.bool false],.inl [(0,1),(1,1),(2,1),(3,1)])) [(1,(.sc (.bool true))),(3,(.sc (.bool true)))] fun t7=>
aE (some 4) (s.tm 2) t7 h W fun h8=>
Q .ret ⟨ai s.tm [(14,t7),(3,(.sc (.bool true)))],s.ds⟩ h8
def k5:OK:=fun W Q _ s h=>
bZ (some ([.bool false,.bool false,.int .i64 0,.bool false],.inl [(0,1),(1,1),(2,1),(3,1)])) [(0,(.sc (.bool true))),(1,(.sc (.bool true))),(3,(.sc (.bool true)))] fun t9=>
aE (some 4) (s.tm 2) t9 h W fun lq=>
Q .ret ⟨ai s.tm [(17,t9),(3,(.sc (.bool true)))],s.ds⟩ lq
def k6:OK:=fun W Q _ s h=>
bZ (some ([.bool false,.bool false,.int .i64 0,.bool false],.inl [(0,1),(1,1),(2,1),(3,1)])) [(2,(.sc (.int .i64 2)))] fun t11=>
aE (some 4) (s.tm 2) t11 h W fun qy=>
Q .ret ⟨ai s.tm [(20,t11),(3,(.sc (.bool true)))],s.ds⟩ qy
def k7:OK:=fun W Q _ s h=>
bZ (some ([.bool false,.bool false,.int .i64 0,.bool false],.inl [(0,1),(1,1),(2,1),(3,1)])) [(2,(.sc (.int .i64 1)))] fun t13=>
aE (some 4) (s.tm 2) t13 h W fun vP=>
Q .ret ⟨ai s.tm [(23,t13),(3,(.sc (.bool true)))],s.ds⟩ vP
def k8:OK:=fun W Q _ s h=>
bZ (some ([.bool false,.bool false,.int .i64 0,.bool false],.inl [(0,1),(1,1),(2,1),(3,1)])) [(0,(.sc (.bool true))),(2,(.sc (.int .i64 (-1))))] fun t15=>
aE (some 4) (s.tm 2) t15 h W fun mz=>
Q .ret ⟨ai s.tm [(26,t15),(3,(.sc (.bool true)))],s.ds⟩ mz
def k9:OK:=fun W Q QP s h=>
aM (s.tm 24) (
k8 W Q QP s h) (
k1 W Q QP s h)
def eF:OK:=fun W Q QP s h=>
ag Pg .eql 9 true (s.tm 4) (.sc (.string ⟨#[117,115,101]⟩)) fun t17=>
k9 W Q QP ⟨ai s.tm [(25,t17),(24,t17)],s.ds⟩ h
def gZ:OK:=fun W Q QP s h=>
aM (s.tm 21) (
k7 W Q QP s h) (
eF W Q QP s h)
def kq:OK:=fun W Q QP s h=>
ag Pg .eql 9 true (s.tm 4) (.sc (.string ⟨#[114,101,115,101,116]⟩)) fun t18=>
gZ W Q QP ⟨ai s.tm [(22,t18),(21,t18)],s.ds⟩ h
def mR:OK:=fun W Q QP s h=>
aM (s.tm 18) (
k6 W Q QP s h) (
kq W Q QP s h)
def nD:OK:=fun W Q QP s h=>
ag Pg .eql 9 true (s.tm 4) (.sc (.string ⟨#[109,101,97,115,117,114,101]⟩)) fun t19=>
mR W Q QP ⟨ai s.tm [(19,t19),(18,t19)],s.ds⟩ h
def nY:OK:=fun W Q QP s h=>
aM (s.tm 15) (
k5 W Q QP s h) (
nD W Q QP s h)
def oJ:OK:=fun W Q QP s h=>
ag Pg .eql 9 true (s.tm 4) (.sc (.string ⟨#[105,102]⟩)) fun t20=>
nY W Q QP ⟨ai s.tm [(16,t20),(15,t20)],s.ds⟩ h
def nC:OK:=fun W Q QP s h=>
aM (s.tm 12) (
k4 W Q QP s h) (
oJ W Q QP s h)
def ss:OK:=fun W Q QP s h=>
ag Pg .eql 9 true (s.tm 4) (.sc (.string ⟨#[114,101,112,101,97,116]⟩)) fun t21=>
nC W Q QP ⟨ai s.tm [(13,t21),(12,t21)],s.ds⟩ h
def sr:OK:=fun W Q QP s h=>
aM (s.tm 9) (
k3 W Q QP s h) (
ss W Q QP s h)
def ry:OK:=fun W Q QP s h=>
ag Pg .eql 9 true (s.tm 4) (.sc (.string ⟨#[103,97,116,101]⟩)) fun t22=>
sr W Q QP ⟨ai s.tm [(10,t22),(9,t22)],s.ds⟩ h
def tC:OK:=fun W Q QP s h=>
aM (s.tm 5) (
k2 W Q QP s h) (
ry W Q QP s h)
def oI:OK:=fun W Q QP s h=>
aM (s.tm 5) (
tC W Q QP s h) (
ag Pg .eql 9 true (s.tm 4) (.sc (.string ⟨#[98,105,116,115]⟩)) fun t23=>
tC W Q QP ⟨ai s.tm [(7,t23),(5,t23)],s.ds⟩ h)
def tB:OK:=fun W Q QP s h=>
ag Pg .eql 9 true (s.tm 4) (.sc (.string ⟨#[113,117,98,105,116,115]⟩)) fun t24=>
oI W Q QP ⟨ai s.tm [(6,t24),(5,t24)],s.ds⟩ h
def so:OK:=fun W Q QP s h=>
tB W Q QP ⟨ai s.tm [(4,(s.tm 0))],s.ds⟩ h
def sk:OK:=fun W Q QP s h=>
bn (some [.bool false,.bool false,.int .i64 0,.bool false]) 4 107 h fun t25 nH=>
so W Q QP ⟨ai s.tm [(2,t25),(3,(.sc (.bool false)))],s.ds⟩ nH
theorem calls{x0:AV}{h:AH}{M:WK}{R:RK}(hp:sk (fun id=>M id\/h.next<=id) (cM Pg [.cell 2 107,.tmp 3] R) (bx R) (s0 [x0]) h):aB Pg 48 [x0] h M R:=
 mA (n:=28) (pl:=pl) sk Tryz.mixed Tryz.func48 (fun W Q QP=>
(sq (sk W Q QP)
(sn
(sl (k1 W Q QP))
(sq (so W Q QP)
(bk 0 (sn
(cd (tC W Q QP) (sl (k2 W Q QP)) (sq (ry W Q QP)
(cd (sr W Q QP) (sl (k3 W Q QP)) (sq (ss W Q QP)
(cd (nC W Q QP) (sl (k4 W Q QP)) (sq (oJ W Q QP)
(cd (nY W Q QP) (sl (k5 W Q QP)) (sq (nD W Q QP)
(cd (mR W Q QP) (sl (k6 W Q QP)) (sq (kq W Q QP)
(cd (gZ W Q QP) (sl (k7 W Q QP)) (sq (eF W Q QP)
(cd (k9 W Q QP) (sl (k8 W Q QP)) tr)))))))))))))
(sq (tB W Q QP)
(cd (oI W Q QP) tr tr)))))))) hp
attribute [simp] k1 k2 k3 k4 k5 k6 k7 k8 k9 eF gZ kq mR nD nY oJ nC ss sr ry tC oI tB so sk
end F48
namespace Re
def pl:dz:=[(1,⟨[(none,(fr 0 3)),(some (2,true),(fr 3 3)),(none,(fr 6 2))],false,[],[]⟩)]
def k1:OK:=fun _ Q _ s h=>
Q .ret s h
def k2:OK:=fun W Q QP s h=>
aT (s.tm 5) (s.tm 8) (.sc (.bool false)) fun t1=>
k1 W Q QP ⟨ai s.tm [(9,t1),(2,t1)],s.ds⟩ h
def k3:OK:=fun W Q QP s h=>
bE true (s.tm 5) (
aC Pg W 87 [(s.tm 0)] h (fun t2 h3=>
gM .not t2 fun t4=>
k2 W Q QP ⟨ai s.tm [(6,(s.tm 0)),(7,t2),(8,t4)],s.ds⟩ h3) (QP s.ds)) (
k2 W Q QP ⟨ai s.tm [(6,aa),(7,aa),(8,aa)],s.ds⟩ h)
def k4:OK:=fun W Q QP s h=>
aC Pg W 107 [(s.tm 0)] h (fun t5 h6=>
k3 W Q QP ⟨ai s.tm [(3,(s.tm 0)),(4,t5),(5,t5)],s.ds⟩ h6) (QP s.ds)
def k5:OK:=fun W Q QP s h=>
k4 W Q QP ⟨ai s.tm [(2,(.sc (.bool false)))],s.ds⟩ h
theorem calls{x0:AV}{h:AH}{M:WK}{R:RK}(hp:k5 (fun id=>M id\/h.next<=id) (cM Pg [.tmp 2] R) (bx R) (s0 [x0]) h):aB Pg 80 [x0] h M R:=
 mA (n:=10) (pl:=pl) k5 Tryz.mixed Tryz.func80 (fun W Q QP=>
(sq (k5 W Q QP)
(sn
(sm (k1 W Q QP))
(gr (gn (k4 W Q QP) (gx (k3 W Q QP) (gl (k2 W Q QP)))))))) hp
attribute [simp] k1 k2 k3 k4 k5
end Re
namespace F81
def pl:dz:=[(1,⟨[(none,(fr 0 3)),(some (2,true),(fr 3 2)),(none,(fr 5 2))],false,[],[]⟩)]
def k1:OK:=fun _ Q _ s h=>
Q .ret s h
def k2:OK:=fun W Q QP s h=>
aT (s.tm 5) (s.tm 7) (.sc (.bool false)) fun t1=>
k1 W Q QP ⟨ai s.tm [(8,t1),(2,t1)],s.ds⟩ h
def k3:OK:=fun W Q QP s h=>
bE true (s.tm 5) (
ag Pg .leq 3 true (s.tm 0) (.sc (.int .i64 9007199254740991)) fun t2=>
k2 W Q QP ⟨ai s.tm [(6,(s.tm 0)),(7,t2)],s.ds⟩ h) (
k2 W Q QP ⟨ai s.tm [(6,aa),(7,aa)],s.ds⟩ h)
def k4:OK:=fun W Q QP s h=>
ag Pg .geq 3 true (s.tm 0) (.sc (.int .i64 0)) fun t3=>
k3 W Q QP ⟨ai s.tm [(3,(s.tm 0)),(4,t3),(5,t3)],s.ds⟩ h
def k5:OK:=fun W Q QP s h=>
k4 W Q QP ⟨ai s.tm [(2,(.sc (.bool false)))],s.ds⟩ h
theorem calls{x0:AV}{h:AH}{M:WK}{R:RK}(hp:k5 (fun id=>M id\/h.next<=id) (cM Pg [.tmp 2] R) (bx R) (s0 [x0]) h):aB Pg 81 [x0] h M R:=
 mA (n:=9) (pl:=pl) k5 Tryz.mixed Tryz.func81 (fun W Q QP=>
(sq (k5 W Q QP)
(sn
(sm (k1 W Q QP))
(gr (gn (k4 W Q QP) (gx (k3 W Q QP) (gl (k2 W Q QP)))))))) hp
attribute [simp] k1 k2 k3 k4 k5
end F81
namespace It
def pl:dz:=[]
def k1:OK:=fun _ Q _ s h=>
(a_ (s.tm 1)=true)/\bO (s.tm 1) fun t1=>
Q .ret ⟨ai s.tm [(17,(s.tm 1)),(18,t1),(4,t1),(5,(.sc (.nilIface)))],s.ds⟩ h
def k2:OK:=fun W Q QP s h=>
aY (s.tm 0) fun t2=>
ah (some 1) t2 fun t3=>
al (some false) (some 1) t3 h fun t4 _=>
qM (some 5) t4 (s.tm 1) h W fun t6 h7=>
aY (s.tm 0) fun t8=>
ah (some 1) t8 fun t9=>
aE (some 1) t9 t6 h7 W fun lq=>
k1 W Q QP ⟨ai s.tm [(8,(s.tm 0)),(9,(s.tm 0)),(10,t2),(11,t3),(12,t4),(13,(s.tm 1)),(14,t6),(15,t8),(16,t9)],s.ds⟩ lq
def k3:OK:=fun W Q QP s h=>
aC Pg W 111 [(s.tm 0)] h (fun t11 qy=>
k2 W Q QP ⟨ai s.tm [(6,(s.tm 0)),(7,t11)],s.ds⟩ qy) (QP s.ds)
def k4:OK:=fun W Q QP s h=>
k3 W Q QP ⟨ai s.tm [(4,(.sc (.int .i64 0))),(5,(.sc (.nilIface)))],s.ds⟩ h
theorem calls{x0 x1:AV}{h:AH}{M:WK}{R:RK}(hp:k4 (fun id=>M id\/h.next<=id) (cM Pg [.tmp 4,.tmp 5] R) (bx R) (s0 [x0,x1]) h):aB Pg 84 [x0,x1] h M R:=
 mA (n:=19) (pl:=pl) k4 Tryz.mixed Tryz.func84 (fun W Q QP=>
(sq (k4 W Q QP)
(sq (k3 W Q QP)
(sq (k2 W Q QP)
(sl (k1 W Q QP)))))) hp
attribute [simp] k1 k2 k3 k4
end It
namespace JV
def pl:dz:=[(1,⟨[(none,(fr 0 3)),(some (2,true),(fr 3 3)),(none,(fr 6 2)),(some (7,true),(fr 8 5)),(none,(fr 13 2))],false,[],[]⟩)]
def k1:OK:=fun _ Q _ s h=>
Q .ret s h
def k2:OK:=fun W Q QP s h=>
aT (s.tm 10) (s.tm 15) (.sc (.bool false)) fun t1=>
k1 W Q QP ⟨ai s.tm [(16,t1),(2,t1)],s.ds⟩ h
def k3:OK:=fun W Q QP s h=>
bE true (s.tm 10) (
aC Pg W 53 [(s.tm 0),(.sc (.int .i64 0)),(.fn (.func 56) [] [])] h (fun t2 h3=>
(a_ (s.tm 0)=true)/\bO (s.tm 0) fun t4=>
ag Pg .eql 3 false t2 t4 fun t5=>
k2 W Q QP ⟨ai s.tm [(11,(s.tm 0)),(12,t2),(13,(s.tm 0)),(14,t4),(15,t5)],s.ds⟩ h3) (QP s.ds)) (
k2 W Q QP ⟨ai s.tm [(11,aa),(12,aa),(13,aa),(14,aa),(15,aa)],s.ds⟩ h)
def k4:OK:=fun W Q QP s h=>
aT (s.tm 5) (s.tm 8) (.sc (.bool false)) fun t6=>
k3 W Q QP ⟨ai s.tm [(9,t6),(10,t6)],s.ds⟩ h
def k5:OK:=fun W Q QP s h=>
bE true (s.tm 5) (
rm true (s.tm 0) (.sc (.int .i64 0)) fun t7=>
aC Pg W 55 [t7] h (fun t8 h9=>
k4 W Q QP ⟨ai s.tm [(6,(s.tm 0)),(7,t7),(8,t8)],s.ds⟩ h9) (QP s.ds)) (
k4 W Q QP ⟨ai s.tm [(6,aa),(7,aa),(8,aa)],s.ds⟩ h)
def k6:OK:=fun W Q QP s h=>
ag Pg .neq 9 true (s.tm 0) (.sc (.string ⟨#[]⟩)) fun t10=>
k5 W Q QP ⟨ai s.tm [(3,(s.tm 0)),(4,t10),(5,t10)],s.ds⟩ h
def k7:OK:=fun W Q QP s h=>
k6 W Q QP ⟨ai s.tm [(2,(.sc (.bool false)))],s.ds⟩ h
theorem calls{x0:AV}{h:AH}{M:WK}{R:RK}(hp:k7 (fun id=>M id\/h.next<=id) (cM Pg [.tmp 2] R) (bx R) (s0 [x0]) h):aB Pg 107 [x0] h M R:=
 mA (n:=17) (pl:=pl) k7 Tryz.mixed Tryz.func107 (fun W Q QP=>
(sq (k7 W Q QP)
(sn
(sm (k1 W Q QP))
(gr (gn (k6 W Q QP) (gx (k5 W Q QP) (gn (k4 W Q QP) (gx (k3 W Q QP) (gl (k2 W Q QP)))))))))) hp
attribute [simp] k1 k2 k3 k4 k5 k6 k7
end JV
end
section
open Go.Ab
namespace F7
abbrev rs:List Nat:=[2,3]
def n1:N1:=fun W R _ _ P x6 h=>
aC Pg W 18 [x6] h (fun t1 h2=>
cf t1 0 fun t3=>
cf t1 1 fun t4=>
R [t3,t4] h2) P
def n2:N5:=fun _ _ N _ _ x6 x7 cC dB dh h=>
ag Pg .add 3 true dh (.sc (.int .i64 1)) fun t5=>
N [x6,x7,cC,dB,t5] h
def n3:N7:=fun W R N E P x6 x7 ax aP cC dB dh h=>
∃Hd:Nat->Nat,(∀i∈[3],h.obj (Hd i)≠none)/\(
al (some true) (some 7) ax h fun t6 i7=>
(i7=Hd 3)/\(
eh (some (6,80,46)) x6 aP h (jG W Hd [3]) fun t8 h9=>
aC Pg yn 17 [t6,x7] h9 (fun t10 qz=>
dK (some (6,46,[.string ⟨#[]⟩,.string ⟨#[]⟩,.slice none 0 0,.int .i64 0,.int .i64 0,.int .i64 0])) 1 [(0,t10)] qz fun t12 QV=>
eh (some (6,80,46)) t8 t12 QV W fun t14 yT=>
n2 W R N E P t14 x7 cC dB dh yT) P))
def n4:N9:=fun _ _ N _ _ x6 x7 ax aP cC dB dh vd fj h=>
ag Pg .add 3 true fj (.sc (.int .i64 1)) fun t16=>
N [x6,x7,ax,aP,cC,dB,dh,vd,t16] h
def n5:tS:=fun W R N E P x6 x7 ax aP dM cC dB dh vd fj h=>
(a_ aP=false)/\bO aP fun t17=>
ag Pg .sub 3 false t17 dM fun t18=>
cj (some (6,none)) aP dM fun t19=>
ah (some 4) t19 fun t20=>
aE (some 1) t20 t18 h W fun vI=>
n4 W R N E P x6 x7 ax aP cC dB dh vd fj vI
def n6:N9:=fun W R N E P x6 x7 ax aP cC dB dh vd fj h=>
n5 W R N E P x6 x7 ax aP fj cC dB dh vd fj h
def n7:tS:=fun W R N E P x6 x7 ax aP cC dB dh vd fj gg h=>
aM gg (
n6 W R N E P x6 x7 ax aP cC dB dh vd fj h) (
E 6 [x6,x7,ax,aP,cC,dB,dh] h)
def n8:N9:=fun W R N E P x6 x7 ax aP cC dB dh vd fj h=>
ag Pg .lss 3 false fj vd fun t22=>
n7 W R N E P x6 x7 ax aP cC dB dh vd fj t22 h
def ju:GK:=fun W R N E P N' vs h=>n8 W R N' (fun(i:Nat) (vs:List AV) (h:AH)=>if i=6 then n3 W R N E P (vs.getD 0 aa) (vs.getD 1 aa) (vs.getD 2 aa) (vs.getD 3 aa) (vs.getD 4 aa) (vs.getD 5 aa) (vs.getD 6 aa) h else if i=3 then n2 W R N E P (vs.getD 0 aa) (vs.getD 1 aa) (vs.getD 2 aa) (vs.getD 3 aa) (vs.getD 4 aa) h else E i vs h) P (vs.getD 0 aa) (vs.getD 1 aa) (vs.getD 2 aa) (vs.getD 3 aa) (vs.getD 4 aa) (vs.getD 5 aa) (vs.getD 6 aa) (vs.getD 7 aa) (vs.getD 8 aa) h
def n9:N9:=fun W R N E P x6 x7 ax aP cC dB dh vd fj h=>
dT (ju W R N E P) [x6,x7,ax,aP,cC,dB,dh,vd,fj] h
def aZ:N7:=fun W R N E P x6 x7 ax aP cC dB dh h=>
(a_ aP=false)/\bO aP fun t23=>
n9 W R N E P x6 x7 ax aP cC dB dh t23 (.sc (.int .i64 0)) h
def bc:N0:=fun _ R _ _ _ h=>
R [(.sc (.string ⟨#[]⟩)),(.sc (.int .i64 102))] h
def ba:N8:=fun W R N E P x6 x7 ax aP cC dB dh Tl h=>
aM Tl (
bc W R N E P h) (
aZ W R N E P x6 x7 ax aP cC dB dh h)
def br:N7:=fun W R N E P x6 x7 ax aP cC dB dh h=>
(a_ aP=false)/\bO aP fun t24=>
ag Pg .gtr 3 true t24 (.sc (.int .i64 32)) fun t25=>
ba W R N E P x6 x7 ax aP cC dB dh t25 h
def bF:tS:=fun _ _ N _ _ x6 x7 ax aP cC dB dh lD mI kV h=>
ag Pg .add 3 true kV (.sc (.int .i64 1)) fun t26=>
N [x6,x7,ax,aP,cC,dB,dh,lD,mI,t26] h
def bM:Is:=fun W R N E P x6 x7 ax aP aR dD cC dB dh lD mI kV h=>
aC Pg W 16 [aR] h (fun t27 sF=>
qi (some .i64) dD fun t29=>
bZ (some ([.string ⟨#[]⟩,.string ⟨#[]⟩,.slice none 0 0,.int .i64 0,.int .i64 0,.int .i64 0],.inl [(0,1),(1,1),(2,1),(3,1),(4,1),(5,1)])) [(0,(.sc (.string ⟨#[105,102]⟩))),(1,t27),(3,t29)] fun t30=>
dK (some (6,46,[.string ⟨#[]⟩,.string ⟨#[]⟩,.slice none 0 0,.int .i64 0,.int .i64 0,.int .i64 0])) 1 [(0,t30)] sF fun t31 tL=>
eh (some (6,80,46)) aP t31 tL W fun t33 yQ=>
bF W R N E P x6 x7 ax t33 cC dB dh lD mI kV yQ) P
def bP:Is:=fun W R N E P x6 x7 ax aP aR bV cC dB dh lD mI kV h=>
ah (some 6) ax fun t35=>
al (some false) (some 1) t35 h fun t36 _=>
ah (some 0) bV fun t38=>
al (some false) (some 1) t38 h fun t39 _=>
ag Pg .shr 36 false t36 t39 fun t41=>
ah (some 1) bV fun t42=>
al (some false) (some 1) t42 h fun t43 _=>
ag Pg .shl 36 true (.sc (.int .u64 1)) t43 fun t45=>
ag Pg .sub 36 true t45 (.sc (.int .u64 1)) fun t46=>
ag Pg .and 36 false t41 t46 fun t47=>
bM W R N E P x6 x7 ax aP aR t47 cC dB dh lD mI kV h
def bN:Z7:=fun W R N E P x6 x7 ax aP aR bV cC dB dh lD mI kV Eu h=>
aM Eu (
bP W R N E P x6 x7 ax aP aR bV cC dB dh lD mI kV h) (
bF W R N E P x6 x7 ax aP cC dB dh lD mI kV h)
def bW:Is:=fun W R N E P x6 x7 ax aP aR bV cC dB dh lD mI kV h=>
ah (some 5) ax fun t48=>
al (some false) (some 1) t48 h fun t49 _=>
ah (some 0) bV fun t51=>
al (some false) (some 1) t51 h fun t52 _=>
ag Pg .shr 36 false t49 t52 fun t54=>
ag Pg .and 36 true t54 (.sc (.int .u64 1)) fun t55=>
ag Pg .eql 36 true t55 (.sc (.int .u64 1)) fun t56=>
bN W R N E P x6 x7 ax aP aR bV cC dB dh lD mI kV t56 h
def bT:tS:=fun W R N E P x6 x7 ax aP cC dB dh lD mI kV h=>
cj (some (2,none)) lD kV fun t57=>
al (some true) (some 2) t57 h fun t58 _=>
bn (some [.int .i64 0,.int .i64 0]) 2 56 h fun t60 L4=>
aE (some 2) t60 t58 L4 W fun BA=>
bW W R N E P x6 x7 ax aP kV t60 cC dB dh lD mI kV BA
def bX:GQ:=fun W R N E P x6 x7 ax aP cC dB dh lD mI kV Ew h=>
aM Ew (
bT W R N E P x6 x7 ax aP cC dB dh lD mI kV h) (
E 4 [x6,x7,ax,aP,cC,dB,dh] h)
def cl:tS:=fun W R N E P x6 x7 ax aP cC dB dh lD mI kV h=>
ag Pg .lss 3 false kV mI fun t63=>
bX W R N E P x6 x7 ax aP cC dB dh lD mI kV t63 h
def FX:GK:=fun W R N E P N' vs h=>cl W R N' (fun(i:Nat) (vs:List AV) (h:AH)=>if i=4 then br W R N E P (vs.getD 0 aa) (vs.getD 1 aa) (vs.getD 2 aa) (vs.getD 3 aa) (vs.getD 4 aa) (vs.getD 5 aa) (vs.getD 6 aa) h else if i=3 then n2 W R N E P (vs.getD 0 aa) (vs.getD 1 aa) (vs.getD 2 aa) (vs.getD 3 aa) (vs.getD 4 aa) h else E i vs h) P (vs.getD 0 aa) (vs.getD 1 aa) (vs.getD 2 aa) (vs.getD 3 aa) (vs.getD 4 aa) (vs.getD 5 aa) (vs.getD 6 aa) (vs.getD 7 aa) (vs.getD 8 aa) (vs.getD 9 aa) h
def cq:tS:=fun W R N E P x6 x7 ax aP cC dB dh lD mI kV h=>
dT (FX W R N E P) [x6,x7,ax,aP,cC,dB,dh,lD,mI,kV] h
def cL:N7:=fun W R N E P x6 x7 ax aP cC dB dh h=>
(a_ x7=false)/\bO x7 fun t64=>
cq W R N E P x6 x7 ax aP cC dB dh x7 t64 (.sc (.int .i64 0)) h
def cN:N6:=fun W R N E P x6 x7 ax cC dB dh h=>
cL W R N E P x6 x7 ax (.sc (.slice none 0 0)) cC dB dh h
def cG:N5:=fun W R N E P x6 x7 cC dB dh h=>
cj (some (7,none)) cC dh fun t65=>
al (some true) (some 7) t65 h fun t66 _=>
bn (some [.int .i64 0,.string ⟨#[]⟩,.slice none 0 0,.int .i64 0,.bool false,.int .u64 0,.int .u64 0]) 7 38 h fun t68 LZ=>
aE (some 7) t68 t66 LZ W fun FO=>
cN W R N E P x6 x7 t68 cC dB dh FO
def cE:N6:=fun W R N E P x6 x7 cC dB dh J1 h=>
aM J1 (
cG W R N E P x6 x7 cC dB dh h) (
E 2 [x6] h)
def cV:N5:=fun W R N E P x6 x7 cC dB dh h=>
ag Pg .lss 3 false dh dB fun t71=>
cE W R N E P x6 x7 cC dB dh t71 h
def cT:GK:=fun W R N E P N' vs h=>cV W R N' (fun(i:Nat) (vs:List AV) (h:AH)=>if i=2 then n1 W R N E P (vs.getD 0 aa) h else E i vs h) P (vs.getD 0 aa) (vs.getD 1 aa) (vs.getD 2 aa) (vs.getD 3 aa) (vs.getD 4 aa) h
def cX:N5:=fun W R N E P x6 x7 cC dB dh h=>
dT (cT W R N E P) [x6,x7,cC,dB,dh] h
def cU:N3:=fun W R N E P x1 x6 x7 h=>
ah (some 2) x1 fun t72=>
al (some false) (some 1) t72 h fun t73 _=>
(a_ t73=false)/\bO t73 fun t75=>
cX W R N E P x6 x7 t73 t75 (.sc (.int .i64 0)) h
def dG:N6:=fun _ _ N _ _ x1 x6 x7 io fA gK h=>
ag Pg .add 3 true gK (.sc (.int .i64 1)) fun t76=>
N [x1,x6,x7,io,fA,t76] h
def dV:N8:=fun W R N E P x1 x6 x7 x8 x9 io fA gK h=>
ah (some 1) x9 fun t77=>
al (some false) (some 1) t77 h fun t78 _=>
aC Pg yn 16 [x8] h (fun t80 LX=>
bZ (some ([.string ⟨#[]⟩,.string ⟨#[]⟩,.slice none 0 0,.int .i64 0,.int .i64 0,.int .i64 0],.inl [(0,1),(1,1),(2,1),(3,1),(4,1),(5,1)])) [(0,(.sc (.string ⟨#[98,105,116,115]⟩))),(1,t80),(3,t78)] fun t82=>
dK (some (6,46,[.string ⟨#[]⟩,.string ⟨#[]⟩,.slice none 0 0,.int .i64 0,.int .i64 0,.int .i64 0])) 1 [(0,t82)] LX fun t83 FK=>
eh (some (6,80,46)) x6 t83 FK W fun t85 FJ=>
dG W R N E P x1 t85 x7 io fA gK FJ) P
def ea:N6:=fun W R N E P x1 x6 x7 io fA gK h=>
cj (some (2,none)) io gK fun t87=>
al (some true) (some 2) t87 h fun t88 _=>
bn (some [.int .i64 0,.int .i64 0]) 2 56 h fun t90 VW=>
aE (some 2) t90 t88 VW W fun LV=>
dV W R N E P x1 x6 x7 gK t90 io fA gK LV
def fq:N7:=fun W R N E P x1 x6 x7 io fA gK gv h=>
aM gv (
ea W R N E P x1 x6 x7 io fA gK h) (
E 0 [x1,x6,x7] h)
def jp:N6:=fun W R N E P x1 x6 x7 io fA gK h=>
ag Pg .lss 3 false gK fA fun t93=>
fq W R N E P x1 x6 x7 io fA gK t93 h
def V6:GK:=fun W R N E P N' vs h=>jp W R N' (fun(i:Nat) (vs:List AV) (h:AH)=>if i=0 then cU W R N E P (vs.getD 0 aa) (vs.getD 1 aa) (vs.getD 2 aa) h else E i vs h) P (vs.getD 0 aa) (vs.getD 1 aa) (vs.getD 2 aa) (vs.getD 3 aa) (vs.getD 4 aa) (vs.getD 5 aa) h
def jD:N6:=fun W R N E P x1 x6 x7 io fA gK h=>
dT (V6 W R N E P) [x1,x6,x7,io,fA,gK] h
def ir:N3:=fun W R N E P x1 x6 x7 h=>
(a_ x7=false)/\bO x7 fun t94=>
jD W R N E P x1 x6 x7 x7 t94 (.sc (.int .i64 0)) h
def jC:N2:=fun W R N E P x1 x6 h=>
al (some true) (some 3) x1 h fun t95 _=>
aC Pg W 15 [t95] h (fun t97 LU=>
ir W R N E P x1 x6 t97 LU) P
def iV:N3:=fun W R N E P x1 x6 eV h=>
aM eV (
ah (some 0) x1 fun t99=>
al (some false) (some 1) t99 h fun t100 _=>
bZ (some ([.string ⟨#[]⟩,.string ⟨#[]⟩,.slice none 0 0,.int .i64 0,.int .i64 0,.int .i64 0],.inl [(0,1),(1,1),(2,1),(3,1),(4,1),(5,1)])) [(0,(.sc (.string ⟨#[113,117,98,105,116,115]⟩))),(1,(.sc (.string ⟨#[113]⟩))),(3,t100)] fun t102=>
dK (some (6,46,[.string ⟨#[]⟩,.string ⟨#[]⟩,.slice none 0 0,.int .i64 0,.int .i64 0,.int .i64 0])) 1 [(0,t102)] h fun t103 FU=>
eh (some (6,80,46)) x6 t103 FU W fun t105 FT=>
jC W R N E P x1 t105 FT) (
jC W R N E P x1 x6 h)
def j_:N2:=fun W R N E P x1 x6 h=>
ah (some 0) x1 fun t107=>
al (some false) (some 1) t107 h fun t108 _=>
ag Pg .gtr 3 true t108 (.sc (.int .i64 0)) fun t110=>
iV W R N E P x1 x6 t110 h
def iq:N1:=fun W R N E P x1 h=>
j_ W R N E P x1 (.sc (.slice none 0 0)) h
def iN:N1:=fun _ R _ _ _ x5 h=>
R [(.sc (.string ⟨#[]⟩)),x5] h
def jN:N3:=fun W R N E P x1 x5 ns h=>
aM ns (
iN W R N E P x5 h) (
iq W R N E P x1 h)
def jo:N2:=fun W R N E P x1 x5 h=>
ag Pg .neq 28 true x5 (.sc (.int .i64 0)) fun t111=>
jN W R N E P x1 x5 t111 h
def jf:N1:=fun W R N E P x1 h=>
al (some true) (some 3) x1 h fun t112 _=>
aC Pg W 14 [t112] h (fun t114 acn=>
cf t114 0 fun t116=>
cf t114 1 fun t117=>
jo W R N E P x1 t117 acn) P
def kJ:N1:=fun W R N E P x0 h=>
dS 3 24 x0 h fun t118 Oj=>
jf W R N E P t118 Oj
theorem aO{x0:AV}{h:AH}{M:WK}{R:RK}(hp:kJ (fun id=>M id\/h.next<=id) (aK Pg [.tmp 2,.tmp 3] R) (aK Pg [.tmp 2,.tmp 3] R) (fun _ _ _=>False) (fun v h=>R (.b6 v) h) x0 h):aB Pg 7 [x0] h M R:=
 fin (n:=122) (pl:=[(11,⟨[(none,[(0,false),(1,false),(3,false),(4,false),(2,false),(5,false),(6,false),(7,false),(8,false)])],false,[],[2]⟩),(21,⟨[(none,(fr 0 11))],false,[],[]⟩),(31,⟨[(none,[(0,false),(1,false),(3,true),(4,false),(2,false),(5,false),(6,false),(7,false),(8,false)])],true,[],[5]⟩)]) (rs:=[.tmp 2,.tmp 3]) (L:=rs) (fun c=>(a1 kJ 0 c)) Tryz.mixed Tryz.func7 (fun c=>
(sq (a1 kJ 0 c)
(sn
(sq (a1 iq 1 c)
(sn
(sq (a2 jC 1 6 c)
(sn
(sn
(sl (a1 n1 6 c))
(sq (a3 cU 1 6 7 c)
(bk 2 (lp [6,7,53,54,55] rs [(2,[6])] (a5 cX 6 7 53 54 55 c) cT (fun i vs h=>if i=2 then n1 c.W c.R c.N c.E c.P (vs.getD 0 aa) h else c.E i vs h) (.b (.t .o)) fun c=>
(sq (a5 cV 6 7 53 54 55 c)
(sn
(sn
(sm (a5 n2 6 7 53 54 55 c))
(bk 3 (sq (a5 cG 6 7 53 54 55 c)
(sq (a6 cN 6 7 11 53 54 55 c)
(sn
(sn
(sn
(sm (a7 n3 6 7 11 12 53 54 55 c))
(sq (a7 aZ 6 7 11 12 53 54 55 c)
(bk 6 (lp [6,7,11,12,53,54,55,96,97] rs [(6,[6,7,11,12,53,54,55]),(3,[6,7,53,54,55]),(2,[6])] (a9 n9 6 7 11 12 53 54 55 96 97 c) ju (fun i vs h=>if i=6 then n3 c.W c.R c.N c.E c.P (vs.getD 0 aa) (vs.getD 1 aa) (vs.getD 2 aa) (vs.getD 3 aa) (vs.getD 4 aa) (vs.getD 5 aa) (vs.getD 6 aa) h else if i=3 then n2 c.W c.R c.N c.E c.P (vs.getD 0 aa) (vs.getD 1 aa) (vs.getD 2 aa) (vs.getD 3 aa) (vs.getD 4 aa) h else c.E i vs h) (.b (.t (.b (.t .o)))) fun c=>
(sq (a9 n8 6 7 11 12 53 54 55 96 97 c)
(sn
(sn
(sm (a9 n4 6 7 11 12 53 54 55 96 97 c))
(bk 7 (sq (a9 n6 6 7 11 12 53 54 55 96 97 c)
(sm (sQ n5 6 7 11 12 16 53 54 55 96 97 c)))))
(cd (sQ n7 6 7 11 12 53 54 55 96 97 98 c) tr tr)))))))
(sq (a7 br 6 7 11 12 53 54 55 c)
(cd (a8 ba 6 7 11 12 53 54 55 94 c) (sl (a0 bc c)) tr)))
(sq (a7 cL 6 7 11 12 53 54 55 c)
(bk 4 (lp [6,7,11,12,53,54,55,59,60,61] rs [(4,[6,7,11,12,53,54,55]),(3,[6,7,53,54,55]),(2,[6])] (sQ cq 6 7 11 12 53 54 55 59 60 61 c) FX (fun i vs h=>if i=4 then br c.W c.R c.N c.E c.P (vs.getD 0 aa) (vs.getD 1 aa) (vs.getD 2 aa) (vs.getD 3 aa) (vs.getD 4 aa) (vs.getD 5 aa) (vs.getD 6 aa) h else if i=3 then n2 c.W c.R c.N c.E c.P (vs.getD 0 aa) (vs.getD 1 aa) (vs.getD 2 aa) (vs.getD 3 aa) (vs.getD 4 aa) h else c.E i vs h) (.b (.t (.b (.t .o)))) fun c=>
(sq (sQ cl 6 7 11 12 53 54 55 59 60 61 c)
(sn
(sn
(sm (sQ bF 6 7 11 12 53 54 55 59 60 61 c))
(bk 5 (sq (sQ bT 6 7 11 12 53 54 55 59 60 61 c)
(sq (a12 bW 6 7 11 12 13 14 53 54 55 59 60 61 c)
(cd (a13 bN 6 7 11 12 13 14 53 54 55 59 60 61 72 c) (sq (a12 bP 6 7 11 12 13 14 53 54 55 59 60 61 c)
(sm (a12 bM 6 7 11 12 13 15 53 54 55 59 60 61 c))) tr)))))
(cd (DZ bX 6 7 11 12 53 54 55 59 60 61 62 c) tr tr)))))))))))
(cd (a6 cE 6 7 53 54 55 56 c) tr tr)))))))
(sq (a3 ir 1 6 7 c)
(bk 0 (lp [1,6,7,36,37,38] rs [(0,[1,6,7])] (a6 jD 1 6 7 36 37 38 c) V6 (fun i vs h=>if i=0 then cU c.W c.R c.N c.E c.P (vs.getD 0 aa) (vs.getD 1 aa) (vs.getD 2 aa) h else c.E i vs h) (.b (.t .o)) fun c=>
(sq (a6 jp 1 6 7 36 37 38 c)
(sn
(sn
(sm (a6 dG 1 6 7 36 37 38 c))
(bk 1 (sq (a6 ea 1 6 7 36 37 38 c)
(gr (gl (a8 dV 1 6 7 8 9 36 37 38 c))))))
(cd (a7 fq 1 6 7 36 37 38 39 c) tr tr))))))))
(sq (a2 j_ 1 6 c)
(cd (a3 iV 1 6 27 c) tr tr))))
(sq (a1 jf 1 c)
(sq (a2 jo 1 5 c)
(cd (a3 jN 1 5 23 c) (sl (a1 iN 5 c)) tr)))))) hp
attribute [simp] n1 n2 n3 n4 n5 n6 n7 n8 aZ bc ba br bF bM bP bN bW bT bX cl cL cN cG cE cV cU dG dV ea fq jp ir jC iV j_ iq iN jN jo jf kJ
end F7
namespace e_
abbrev rs:List Nat:=[2]
def n1:N1:=fun _ R _ _ _ x3 h=>
R [x3] h
def n2:N4:=fun _ _ N _ _ x1 x3 au ax h=>
ag Pg .add 3 true ax (.sc (.int .i64 1)) fun t1=>
N [x1,x3,au,t1] h
def n3:N5:=fun W R N E P x1 x3 x5 au ax h=>
cj (some (2,none)) x3 x5 fun t2=>
ah (some 1) t2 fun t3=>
al (some false) (some 1) t3 h fun t4 _=>
ag Pg .add 3 true t4 (.sc (.int .i64 1)) fun t6=>
cj (some (2,none)) x3 x5 fun t7=>
ah (some 1) t7 fun t8=>
aE (some 1) t8 t6 h W fun h9=>
n2 W R N E P x1 x3 au ax h9
def n4:N5:=fun W R N E P x1 x3 x4 au ax h=>
bZ (some ([.int .i64 0,.int .i64 0],.inl [(0,1),(1,1)])) [(0,x4),(1,(.sc (.int .i64 1)))] fun t10=>
dK (some (2,56,[.int .i64 0,.int .i64 0])) 1 [(0,t10)] h fun t11 qy=>
eh (some (2,16,56)) x3 t11 qy W fun t13 vP=>
n2 W R N E P x1 t13 au ax vP
def n5:N7:=fun W R N E P x1 x3 x4 x5 au ax dB h=>
aM dB (
n4 W R N E P x1 x3 x4 au ax h) (
n3 W R N E P x1 x3 x5 au ax h)
def n6:N7:=fun W R N E P x1 x3 x4 x5 x6 au ax h=>
n5 W R N E P x1 x3 x4 x5 au ax x6 h
def n7:N8:=fun _ _ N _ _ x1 x3 x4 x5 x6 x7 au ax h=>
ag Pg .add 3 true x7 (.sc (.int .i64 1)) fun t15=>
N [x1,x3,x4,x5,x6,t15,au,ax] h
def n8:N8:=fun W R N E P x1 x3 x4 x5 x7 x8 au ax h=>
ag Pg .shr 36 false x8 x4 fun t16=>
ag Pg .and 36 true t16 (.sc (.int .u64 1)) fun t17=>
ag Pg .sub 3 true x4 (.sc (.int .i64 1)) fun t18=>
ag Pg .shr 36 false x8 t18 fun t19=>
ag Pg .and 36 true t19 (.sc (.int .u64 1)) fun t20=>
ag Pg .neq 36 false t17 t20 fun t21=>
n7 W R N E P x1 x3 x4 x5 t21 x7 au ax h
def n9:N7:=fun W R N E P x1 x3 x4 x5 x7 au ax h=>
ah (some 2) x1 fun t22=>
al (some false) (some 1) t22 h fun t23 _=>
cj (some (7,none)) t23 x7 fun t25=>
ah (some 5) t25 fun t26=>
al (some false) (some 1) t26 h fun t27 _=>
n8 W R N E P x1 x3 x4 x5 x7 t27 au ax h
def aZ:N9:=fun W R N E P x1 x3 x4 x5 x6 x7 au ax oF h=>
aM oF (
n9 W R N E P x1 x3 x4 x5 x7 au ax h) (
E 2 [x1,x3,x4,x5,x6,au,ax] h)
def bc:tS:=fun W R N E P x1 x3 x4 x5 x6 x7 au ax eU vV h=>
aT eU vV (.sc (.bool false)) fun t29=>
aZ W R N E P x1 x3 x4 x5 x6 x7 au ax t29 h
def ba:N9:=fun W R N E P x1 x3 x4 x5 x6 x7 au ax eU h=>
bE true eU (
gM .not x6 fun t30=>
bc W R N E P x1 x3 x4 x5 x6 x7 au ax eU t30 h) (
bc W R N E P x1 x3 x4 x5 x6 x7 au ax eU aa h)
def br:N8:=fun W R N E P x1 x3 x4 x5 x6 x7 au ax h=>
ah (some 2) x1 fun t31=>
al (some false) (some 1) t31 h fun t32 _=>
(a_ t32=false)/\bO t32 fun t34=>
ag Pg .lss 3 false x7 t34 fun t35=>
ba W R N E P x1 x3 x4 x5 x6 x7 au ax t35 h
def ju:GK:=fun W R N E P N' vs h=>br W R N' (fun(i:Nat) (vs:List AV) (h:AH)=>if i=2 then n6 W R N E P (vs.getD 0 aa) (vs.getD 1 aa) (vs.getD 2 aa) (vs.getD 3 aa) (vs.getD 4 aa) (vs.getD 5 aa) (vs.getD 6 aa) h else if i=1 then n2 W R N E P (vs.getD 0 aa) (vs.getD 1 aa) (vs.getD 2 aa) (vs.getD 3 aa) h else E i vs h) P (vs.getD 0 aa) (vs.getD 1 aa) (vs.getD 2 aa) (vs.getD 3 aa) (vs.getD 4 aa) (vs.getD 5 aa) (vs.getD 6 aa) (vs.getD 7 aa) h
def bF:N8:=fun W R N E P x1 x3 x4 x5 x6 x7 au ax h=>
dT (ju W R N E P) [x1,x3,x4,x5,x6,x7,au,ax] h
def bM:N7:=fun W R N E P x1 x3 x4 x5 x6 au ax h=>
bF W R N E P x1 x3 x4 x5 x6 (.sc (.int .i64 0)) au ax h
def bP:N8:=fun W R N E P x1 x3 x4 x5 au ax q8 pR h=>
aT q8 (.sc (.bool true)) pR fun t36=>
bM W R N E P x1 x3 x4 x5 t36 au ax h
def bN:N7:=fun W R N E P x1 x3 x4 x5 au ax q8 h=>
bE false q8 (
cj (some (2,none)) x3 x5 fun t37=>
ah (some 1) t37 fun t38=>
al (some false) (some 1) t38 h fun t39 _=>
ag Pg .eql 3 true t39 (.sc (.int .i64 32)) fun t41=>
bP W R N E P x1 x3 x4 x5 au ax q8 t41 h) (
bP W R N E P x1 x3 x4 x5 au ax q8 aa h)
def bW:N6:=fun W R N E P x1 x3 x4 x5 au ax h=>
ag Pg .lss 3 true x5 (.sc (.int .i64 0)) fun t42=>
bN W R N E P x1 x3 x4 x5 au ax t42 h
def bT:N5:=fun W R N E P x1 x3 x4 au ax h=>
(a_ x3=false)/\bO x3 fun t43=>
ag Pg .sub 3 true t43 (.sc (.int .i64 1)) fun t44=>
bW W R N E P x1 x3 x4 t44 au ax h
def bX:N4:=fun W R N E P x1 x3 au ax h=>
bT W R N E P x1 x3 ax au ax h
def cl:N5:=fun W R N E P x1 x3 au ax aP h=>
aM aP (
bX W R N E P x1 x3 au ax h) (
E 0 [x3] h)
def cq:N4:=fun W R N E P x1 x3 au ax h=>
ag Pg .lss 3 false ax au fun t45=>
cl W R N E P x1 x3 au ax t45 h
def cT:GK:=fun W R N E P N' vs h=>cq W R N' (fun(i:Nat) (vs:List AV) (h:AH)=>if i=0 then n1 W R N E P (vs.getD 0 aa) h else E i vs h) P (vs.getD 0 aa) (vs.getD 1 aa) (vs.getD 2 aa) (vs.getD 3 aa) h
def cL:N4:=fun W R N E P x1 x3 au ax h=>
dT (cT W R N E P) [x1,x3,au,ax] h
def cN:N2:=fun W R N E P x1 x3 h=>
ah (some 1) x1 fun t46=>
al (some false) (some 1) t46 h fun t47 _=>
cL W R N E P x1 x3 t47 (.sc (.int .i64 0)) h
def cG:N1:=fun W R N E P x1 h=>
cN W R N E P x1 (.sc (.slice none 0 0)) h
def cE:N1:=fun W R N E P x0 h=>
dS 3 24 x0 h fun t49 vA=>
cG W R N E P t49 vA
theorem aO{x0:AV}{h:AH}{M:WK}{R:RK}(hp:cE (fun id=>M id\/h.next<=id) (aK Pg [.tmp 2] R) (aK Pg [.tmp 2] R) (fun _ _ _=>False) (fun v h=>R (.b6 v) h) x0 h):aB Pg 15 [x0] h M R:=
 fin (n:=70) (pl:=[(6,⟨[(none,(fr 0 3)),(some (2,false),(fr 3 6)),(none,(fr 9 2))],false,[],[]⟩),(8,⟨[(none,(fr 0 6)),(some (5,true),(fr 6 2)),(none,(fr 8 1))],false,[],[]⟩),(11,⟨[(none,(fr 0 11))],false,[],[]⟩)]) (rs:=[.tmp 2]) (L:=rs) (fun c=>(a1 cE 0 c)) Tryz.mixed Tryz.func15 (fun c=>
(sq (a1 cE 0 c)
(sq (a1 cG 1 c)
(sn
(sl (a1 n1 3 c))
(sq (a2 cN 1 3 c)
(bk 0 (lp [1,3,10,11] rs [(0,[3])] (a4 cL 1 3 10 11 c) cT (fun i vs h=>if i=0 then n1 c.W c.R c.N c.E c.P (vs.getD 0 aa) h else c.E i vs h) (.b (.t .o)) fun c=>
(sq (a4 cq 1 3 10 11 c)
(sn
(sn
(sm (a4 n2 1 3 10 11 c))
(bk 1 (sq (a4 bX 1 3 10 11 c)
(sq (a5 bT 1 3 4 10 11 c)
(sn
(sn
(sn
(sm (a5 n3 1 3 5 10 11 c))
(sq (a7 n6 1 3 4 5 6 10 11 c)
(cd (a7 n5 1 3 4 5 10 11 54 c) (sl (a5 n4 1 3 4 10 11 c)) tr)))
(sq (a7 bM 1 3 4 5 6 10 11 c)
(bk 2 (lp [1,3,4,5,6,7,10,11] rs [(2,[1,3,4,5,6,10,11]),(1,[1,3,10,11]),(0,[3])] (a8 bF 1 3 4 5 6 7 10 11 c) ju (fun i vs h=>if i=2 then n6 c.W c.R c.N c.E c.P (vs.getD 0 aa) (vs.getD 1 aa) (vs.getD 2 aa) (vs.getD 3 aa) (vs.getD 4 aa) (vs.getD 5 aa) (vs.getD 6 aa) h else if i=1 then n2 c.W c.R c.N c.E c.P (vs.getD 0 aa) (vs.getD 1 aa) (vs.getD 2 aa) (vs.getD 3 aa) h else c.E i vs h) (.b (.t (.b (.t .o)))) fun c=>
(sn
(sn
(sm (a8 n7 1 3 4 5 6 7 10 11 c))
(bk 3 (sq (a7 n9 1 3 4 5 7 10 11 c)
(sm (a8 n8 1 3 4 5 7 8 10 11 c)))))
(sn
(cd (a9 aZ 1 3 4 5 6 7 10 11 35 c) tr tr)
(gr (gn (a8 br 1 3 4 5 6 7 10 11 c) (gx (a9 ba 1 3 4 5 6 7 10 11 32 c) (gl (sQ bc 1 3 4 5 6 7 10 11 32 34 c)))))))))))
(gr (gn (a6 bW 1 3 4 5 10 11 c) (gx (a7 bN 1 3 4 5 10 11 19 c) (gl (a8 bP 1 3 4 5 10 11 19 25 c))))))))))
(cd (a5 cl 1 3 10 11 12 c) tr tr)))))))))) hp
attribute [simp] n1 n2 n3 n4 n5 n6 n7 n8 n9 aZ bc ba br bM bP bN bW bT bX cl cq cN cG cE
end e_
namespace Rk
abbrev rs:List Nat:=[2]
def n1:N1:=fun W R _ _ P x0 h=>
aC Pg W 29 [x0] h (fun t1 h2=>
ag Pg .add 9 true (.sc (.string ⟨#[99]⟩)) t1 fun t3=>
R [t3] h2) P
def n2:N1:=fun W R N E P x0 h=>
n1 W R N E P x0 h
theorem aO{x0:AV}{h:AH}{M:WK}{R:RK}(hp:n2 (fun id=>M id\/h.next<=id) (aK Pg [.tmp 2] R) (aK Pg [.tmp 2] R) (fun _ _ _=>False) (fun v h=>R (.b6 v) h) x0 h):aB Pg 16 [x0] h M R:=
 fin (n:=6) (pl:=[]) (rs:=[.tmp 2]) (L:=rs) (fun c=>(a1 n2 0 c)) Tryz.mixed Tryz.func16 (fun c=>
(sq (a1 n2 0 c)
(sl (a1 n1 0 c)))) hp
attribute [simp] n1 n2
end Rk
namespace fF
abbrev rs:List Nat:=[4]
def n1:N3:=fun W R _ _ _ x2 x4 x5 h=>
ah (some 1) x2 fun t1=>
al (some false) (some 1) t1 h fun t2 _=>
bZ (some ([.string ⟨#[]⟩,.string ⟨#[]⟩,.slice none 0 0,.int .i64 0,.int .i64 0,.int .i64 0],.inl [(0,1),(1,1),(2,1),(3,1),(4,1),(5,1)])) [(0,(.sc (.string ⟨#[117,115,101]⟩))),(1,t2),(2,x5)] fun t4=>
aE (some 6) x4 t4 h W fun h5=>
R [x4] h5
def n2:N2:=fun W R _ _ _ x4 x5 h=>
bZ (some ([.string ⟨#[]⟩,.string ⟨#[]⟩,.slice none 0 0,.int .i64 0,.int .i64 0,.int .i64 0],.inl [(0,1),(1,1),(2,1),(3,1),(4,1),(5,1)])) [(0,(.sc (.string ⟨#[109,101,97,115,117,114,101]⟩))),(2,x5)] fun t6=>
aE (some 6) x4 t6 h W fun h7=>
R [x4] h7
def n3:N6:=fun _ _ N _ _ x2 x4 x5 eV j9 ic h=>
ag Pg .add 3 true ic (.sc (.int .i64 1)) fun t8=>
N [x2,x4,x5,eV,j9,t8] h
def n4:N8:=fun W R N E P x2 x4 x5 x8 x9 eV j9 ic h=>
ah (some 3) x2 fun t9=>
al (some false) (some 1) t9 h fun t10 _=>
ah (some 0) x9 fun t12=>
al (some false) (some 1) t12 h fun t13 _=>
ag Pg .sub 3 false t10 t13 fun t15=>
aC Pg yn 16 [x8] h (fun t16 vO=>
bZ (some ([.string ⟨#[]⟩,.int .i64 0],.inl [(0,1),(1,1)])) [(0,t16),(1,t15)] fun t18=>
dK (some (2,67,[.string ⟨#[]⟩,.int .i64 0])) 1 [(0,t18)] vO fun t19 vJ=>
eh (some (2,24,67)) x5 t19 vJ W fun t21 yS=>
n3 W R N E P x2 x4 t21 eV j9 ic yS) P
def n5:N9:=fun W R N E P x2 x4 x5 x8 x9 eV j9 ic eJ h=>
aM eJ (
n4 W R N E P x2 x4 x5 x8 x9 eV j9 ic h) (
n3 W R N E P x2 x4 x5 eV j9 ic h)
def n6:tS:=fun W R N E P x2 x4 x5 x8 x9 eV j9 ic gv jB h=>
aT gv jB (.sc (.bool false)) fun t23=>
n5 W R N E P x2 x4 x5 x8 x9 eV j9 ic t23 h
def n7:N9:=fun W R N E P x2 x4 x5 x8 x9 eV j9 ic gv h=>
bE true gv (
ah (some 3) x2 fun t24=>
al (some false) (some 1) t24 h fun t25 _=>
ah (some 0) x9 fun t27=>
al (some false) (some 1) t27 h fun t28 _=>
ah (some 1) x9 fun t30=>
al (some false) (some 1) t30 h fun t31 _=>
ag Pg .add 3 false t28 t31 fun t33=>
ag Pg .lss 3 false t25 t33 fun t34=>
n6 W R N E P x2 x4 x5 x8 x9 eV j9 ic gv t34 h) (
n6 W R N E P x2 x4 x5 x8 x9 eV j9 ic gv aa h)
def n8:N8:=fun W R N E P x2 x4 x5 x8 x9 eV j9 ic h=>
ah (some 3) x2 fun t35=>
al (some false) (some 1) t35 h fun t36 _=>
ah (some 0) x9 fun t38=>
al (some false) (some 1) t38 h fun t39 _=>
ag Pg .geq 3 false t36 t39 fun t41=>
n7 W R N E P x2 x4 x5 x8 x9 eV j9 ic t41 h
def n9:N6:=fun W R N E P x2 x4 x5 eV j9 ic h=>
cj (some (2,none)) eV ic fun t42=>
al (some true) (some 2) t42 h fun t43 _=>
bn (some [.int .i64 0,.int .i64 0]) 2 56 h fun t45 H0=>
aE (some 2) t45 t43 H0 W fun vD=>
n8 W R N E P x2 x4 x5 ic t45 eV j9 ic vD
def aZ:N7:=fun W R N E P x2 x4 x5 eV j9 ic Ez h=>
aM Ez (
n9 W R N E P x2 x4 x5 eV j9 ic h) (
E 3 [x4,x5] h)
def bc:N6:=fun W R N E P x2 x4 x5 eV j9 ic h=>
ag Pg .lss 3 false ic j9 fun t48=>
aZ W R N E P x2 x4 x5 eV j9 ic t48 h
def cT:GK:=fun W R N E P N' vs h=>bc W R N' (fun(i:Nat) (vs:List AV) (h:AH)=>if i=3 then n2 W R N E P (vs.getD 0 aa) (vs.getD 1 aa) h else if i=2 then n1 W R N E P (vs.getD 0 aa) (vs.getD 1 aa) (vs.getD 2 aa) h else E i vs h) P (vs.getD 0 aa) (vs.getD 1 aa) (vs.getD 2 aa) (vs.getD 3 aa) (vs.getD 4 aa) (vs.getD 5 aa) h
def ba:N6:=fun W R N E P x2 x4 x5 eV j9 ic h=>
dT (cT W R N E P) [x2,x4,x5,eV,j9,ic] h
def br:N4:=fun W R N E P x1 x2 x4 x5 h=>
(a_ x1=false)/\bO x1 fun t49=>
ba W R N E P x2 x4 x5 x1 t49 (.sc (.int .i64 0)) h
def bF:N2:=fun W R _ _ _ x4 x5 h=>
bZ (some ([.string ⟨#[]⟩,.string ⟨#[]⟩,.slice none 0 0,.int .i64 0,.int .i64 0,.int .i64 0],.inl [(0,1),(1,1),(2,1),(3,1),(4,1),(5,1)])) [(0,(.sc (.string ⟨#[114,101,115,101,116]⟩))),(2,x5)] fun t50=>
aE (some 6) x4 t50 h W fun HY=>
R [x4] HY
def bM:N4:=fun W R N E P x2 x4 x5 AB h=>
aM AB (
bF W R N E P x4 x5 h) (
n1 W R N E P x2 x4 x5 h)
def bP:N4:=fun W R N E P x2 x4 x5 ve h=>
ag Pg .eql 3 true ve (.sc (.int .i64 3)) fun t52=>
bM W R N E P x2 x4 x5 t52 h
def bN:N6:=fun W R N E P x1 x2 x4 x5 ve pR h=>
aM pR (
br W R N E P x1 x2 x4 x5 h) (
bP W R N E P x2 x4 x5 ve h)
def bW:N5:=fun W R N E P x1 x2 x4 x5 ve h=>
ag Pg .eql 3 true ve (.sc (.int .i64 2)) fun t53=>
bN W R N E P x1 x2 x4 x5 ve t53 h
def bT:N4:=fun W R N E P x1 x2 x4 x5 h=>
ah (some 0) x2 fun t54=>
al (some false) (some 1) t54 h fun t55 _=>
bW W R N E P x1 x2 x4 x5 t55 h
def bX:N7:=fun _ _ N _ _ x1 x2 x4 x5 ax aP aR h=>
ag Pg .add 3 true aR (.sc (.int .i64 1)) fun t57=>
N [x1,x2,x4,x5,ax,aP,t57] h
def cl:N8:=fun W R N E P x1 x2 x4 x5 x7 ax aP aR h=>
bZ (some ([.string ⟨#[]⟩,.int .i64 0],.inl [(0,1),(1,1)])) [(0,(.sc (.string ⟨#[113]⟩))),(1,x7)] fun t58=>
dK (some (2,67,[.string ⟨#[]⟩,.int .i64 0])) 1 [(0,t58)] h fun t59 V2=>
eh (some (2,24,67)) x5 t59 V2 W fun t61 BA=>
bX W R N E P x1 x2 x4 t61 ax aP aR BA
def cq:N7:=fun W R N E P x1 x2 x4 x5 ax aP aR h=>
cj (some (1,none)) ax aR fun t63=>
al (some false) (some 1) t63 h fun t64 _=>
cl W R N E P x1 x2 x4 x5 t64 ax aP aR h
def cL:N8:=fun W R N E P x1 x2 x4 x5 ax aP aR bV h=>
aM bV (
cq W R N E P x1 x2 x4 x5 ax aP aR h) (
E 0 [x1,x2,x4,x5] h)
def cN:N7:=fun W R N E P x1 x2 x4 x5 ax aP aR h=>
ag Pg .lss 3 false aR aP fun t66=>
cL W R N E P x1 x2 x4 x5 ax aP aR t66 h
def ju:GK:=fun W R N E P N' vs h=>cN W R N' (fun(i:Nat) (vs:List AV) (h:AH)=>if i=0 then bT W R N E P (vs.getD 0 aa) (vs.getD 1 aa) (vs.getD 2 aa) (vs.getD 3 aa) h else E i vs h) P (vs.getD 0 aa) (vs.getD 1 aa) (vs.getD 2 aa) (vs.getD 3 aa) (vs.getD 4 aa) (vs.getD 5 aa) (vs.getD 6 aa) h
def cG:N7:=fun W R N E P x1 x2 x4 x5 ax aP aR h=>
dT (ju W R N E P) [x1,x2,x4,x5,ax,aP,aR] h
def cE:N4:=fun W R N E P x1 x2 x4 x5 h=>
ah (some 2) x2 fun t67=>
al (some false) (some 1) t67 h fun t68 _=>
(a_ t68=false)/\bO t68 fun t70=>
cG W R N E P x1 x2 x4 x5 t68 t70 (.sc (.int .i64 0)) h
def cV:N3:=fun W R N E P x1 x2 x4 h=>
cE W R N E P x1 x2 x4 (.sc (.slice none 0 0)) h
def cX:N2:=fun W R N E P x0 x1 h=>
dS 7 38 x0 h fun t71 Bz=>
bn (some [.string ⟨#[]⟩,.string ⟨#[]⟩,.slice none 0 0,.int .i64 0,.int .i64 0,.int .i64 0]) 6 46 Bz fun t73 FN=>
cV W R N E P x1 t71 t73 FN
theorem aO{x0 x1:AV}{h:AH}{M:WK}{R:RK}(hp:cX (fun id=>M id\/h.next<=id) (aK Pg [.cell 4 46] R) (aK Pg [.cell 4 46] R) (fun _ _ _=>False) (fun v h=>R (.b6 v) h) x0 x1 h):aB Pg 17 [x0,x1] h M R:=
 fin (n:=71) (pl:=[(12,⟨[(none,(fr 0 6)),(some (5,true),(fr 6 8)),(none,(fr 14 1))],false,[],[]⟩),(13,⟨[(none,[(0,false),(1,false),(3,false),(4,false),(5,false),(6,false),(7,false),(2,false),(8,false),(9,false),(10,false),(11,false)])],false,[],[2]⟩)]) (rs:=[.cell 4 46]) (L:=rs) (fun c=>(a2 cX 0 1 c)) Tryz.mixed Tryz.func17 (fun c=>
(sq (a2 cX 0 1 c)
(sq (a3 cV 1 2 4 c)
(sn
(sn
(sl (a3 n1 2 4 5 c))
(sq (a4 bT 1 2 4 5 c)
(bk 2 (sq (a5 bW 1 2 4 5 24 c)
(cd (a6 bN 1 2 4 5 24 25 c) (sn
(sl (a2 n2 4 5 c))
(sq (a4 br 1 2 4 5 c)
(bk 3 (lp [2,4,5,27,28,29] rs [(3,[4,5]),(2,[2,4,5])] (a6 ba 2 4 5 27 28 29 c) cT (fun i vs h=>if i=3 then n2 c.W c.R c.N c.E c.P (vs.getD 0 aa) (vs.getD 1 aa) h else if i=2 then n1 c.W c.R c.N c.E c.P (vs.getD 0 aa) (vs.getD 1 aa) (vs.getD 2 aa) h else c.E i vs h) (.b (.t (.b (.t .o)))) fun c=>
(sq (a6 bc 2 4 5 27 28 29 c)
(sn
(sn
(sm (a6 n3 2 4 5 27 28 29 c))
(bk 4 (sq (a6 n9 2 4 5 27 28 29 c)
(sn
(cd (a9 n5 2 4 5 8 9 27 28 29 48 c) (gr (gl (a8 n4 2 4 5 8 9 27 28 29 c))) tr)
(gr (gn (a8 n8 2 4 5 8 9 27 28 29 c) (gx (a9 n7 2 4 5 8 9 27 28 29 39 c) (gl (sQ n6 2 4 5 8 9 27 28 29 39 47 c)))))))))
(cd (a7 aZ 2 4 5 27 28 29 30 c) tr tr))))))) (sq (a4 bP 2 4 5 24 c)
(cd (a4 bM 2 4 5 63 c) (sl (a2 bF 4 5 c)) tr)))))))
(sq (a4 cE 1 2 4 5 c)
(bk 0 (lp [1,2,4,5,11,12,13] rs [(0,[1,2,4,5])] (a7 cG 1 2 4 5 11 12 13 c) ju (fun i vs h=>if i=0 then bT c.W c.R c.N c.E c.P (vs.getD 0 aa) (vs.getD 1 aa) (vs.getD 2 aa) (vs.getD 3 aa) h else c.E i vs h) (.b (.t .o)) fun c=>
(sq (a7 cN 1 2 4 5 11 12 13 c)
(sn
(sn
(sm (a7 bX 1 2 4 5 11 12 13 c))
(bk 1 (sq (a7 cq 1 2 4 5 11 12 13 c)
(sm (a8 cl 1 2 4 5 7 11 12 13 c)))))
(cd (a8 cL 1 2 4 5 11 12 13 14 c) tr tr)))))))))) hp
attribute [simp] n1 n2 n3 n4 n5 n6 n7 n8 n9 aZ bc br bF bM bP bN bW bT bX cl cq cL cN cE cV cX
end fF
end
end Go.Proofs.YtjehibknlmehmaaGreatDoor
