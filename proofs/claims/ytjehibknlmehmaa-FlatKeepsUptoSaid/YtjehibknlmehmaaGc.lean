/- Bodies of the circuit checks; printed. No condition. -/
import Derived.Test.YtjehibknlmehmaaGl
set_option maxRecDepth 100000
namespace Go.Proofs.Ytjehibknlmehmaa
open Go.Ab
namespace mc
abbrev rs:List Nat:=[2,3]
def n1:N0:=fun _ R _ _ _ h=>
R [(.sc (.int .i64 0)),(.sc (.int .i64 0))] h
def n2:N5:=fun _ _ N _ _ x1 x4 gX fS ib h=>
ah Pg .add 3 true ib (.sc (.int .i64 1)) fun t1=>
N [x1,x4,gX,fS,t1] h
def n3:N1:=fun _ R _ _ _ x5 h=>
R [x5,(.sc (.int .i64 116))] h
def n4:N7:=fun W R N E P x1 x4 x5 gX fS ib jZ h=>
aH jZ (
n3 W R N E P x5 h) (
n2 W R N E P x1 x4 gX fS ib h)
def n5:N6:=fun W R N E P x1 x4 x5 gX fS ib h=>
ah Pg .gtr 3 true x4 (.sc (.int .i64 36)) fun t2=>
n4 W R N E P x1 x4 x5 gX fS ib t2 h
def n6:N7:=fun W R N E P x1 x4 x5 x6 gX fS ib h=>
al (some true) (some 7) x6 h fun t3 _=>
aC Pg W 26 [t3] h (fun t5 h6=>
ah Pg .add 3 false x4 t5 fun t7=>
n5 W R N E P x1 t7 x5 gX fS ib h6) P
def n7:N2:=fun _ R _ _ _ x5 x7 h=>
R [x5,x7] h
def n8:N9:=fun W R N E P x1 x4 x5 x6 x7 gX fS ib mY h=>
aH mY (
n7 W R N E P x5 x7 h) (
n6 W R N E P x1 x4 x5 x6 gX fS ib h)
def n9:N8:=fun W R N E P x1 x4 x5 x6 x7 gX fS ib h=>
ah Pg .neq 30 true x7 (.sc (.int .i64 0)) fun t8=>
n8 W R N E P x1 x4 x5 x6 x7 gX fS ib t8 h
def aQ:N7:=fun W R N E P x1 x4 x5 x6 gX fS ib h=>
al (some true) (some 3) x1 h fun t9 _=>
al (some true) (some 7) x6 h fun t11 _=>
aC Pg W 25 [t9,t11] h (fun t13 yZ=>
n9 W R N E P x1 x4 x5 x6 t13 gX fS ib yZ) P
def a_:N5:=fun W R N E P x1 x4 gX fS ib h=>
br (some (7,none)) gX ib fun t15=>
al (some true) (some 7) t15 h fun t16 _=>
bw (some [.int .i64 0,.string ⟨#[]⟩,.slice none 0 0,.int .i64 0,.bool false,.int .u64 0,.int .u64 0]) 7 49 h fun t18 qJ=>
aG (some 7) t18 t16 qJ W fun sW=>
aQ W R N E P x1 x4 ib t18 gX fS ib sW
def bc:N6:=fun W R N E P x1 x4 gX fS ib Jv h=>
aH Jv (
a_ W R N E P x1 x4 gX fS ib h) (
E 0 [] h)
def bt:N5:=fun W R N E P x1 x4 gX fS ib h=>
ah Pg .lss 3 false ib fS fun t21=>
bc W R N E P x1 x4 gX fS ib t21 h
def cB:GK:=fun W R N E P N' vs h=>bt W R N' (fun(i:Nat) (vs:List AV) (h:AH)=>if i=0 then n1 W R N E P h else E i vs h) P (vs.getD 0 aa) (vs.getD 1 aa) (vs.getD 2 aa) (vs.getD 3 aa) (vs.getD 4 aa) h
def bD:N5:=fun W R N E P x1 x4 gX fS ib h=>
cY (cB W R N E P) [x1,x4,gX,fS,ib] h
def bC:N2:=fun W R N E P x1 x4 h=>
ai (some 2) x1 fun t22=>
al (some false) (some 1) t22 h fun t23 _=>
(ba t23=false)/\bK t23 fun t25=>
bD W R N E P x1 x4 t23 t25 (.sc (.int .i64 0)) h
def bz:N1:=fun W R N E P x1 h=>
bC W R N E P x1 (.sc (.int .i64 0)) h
def bH:N0:=fun _ R _ _ _ h=>
R [(.sc (.int .i64 0)),(.sc (.int .i64 115))] h
def bO:N2:=fun W R N E P x1 pS h=>
aH pS (
bH W R N E P h) (
bz W R N E P x1 h)
def bQ:N1:=fun W R N E P x1 h=>
ai (some 2) x1 fun t26=>
al (some false) (some 1) t26 h fun t27 _=>
(ba t27=false)/\bK t27 fun t29=>
ah Pg .gtr 3 true t29 (.sc (.int .i64 4096)) fun t30=>
bO W R N E P x1 t30 h
def b_:N0:=fun _ R _ _ _ h=>
R [(.sc (.int .i64 0)),(.sc (.int .i64 2))] h
def cp:N2:=fun W R N E P x1 lf h=>
aH lf (
b_ W R N E P h) (
bQ W R N E P x1 h)
def bW:N3:=fun W R N E P x1 dK je h=>
aV dK (.sc (.bool true)) je fun t31=>
cp W R N E P x1 t31 h
def cb:N2:=fun W R N E P x1 dK h=>
bF false dK (
ai (some 1) x1 fun t32=>
al (some false) (some 1) t32 h fun t33 _=>
ah Pg .gtr 3 true t33 (.sc (.int .i64 64)) fun t35=>
bW W R N E P x1 dK t35 h) (
bW W R N E P x1 dK aa h)
def cn:N3:=fun W R N E P x1 cW dt h=>
aV cW (.sc (.bool true)) dt fun t36=>
cb W R N E P x1 t36 h
def cj:N2:=fun W R N E P x1 cW h=>
bF false cW (
ai (some 1) x1 fun t37=>
al (some false) (some 1) t37 h fun t38 _=>
ah Pg .lss 3 true t38 (.sc (.int .i64 0)) fun t40=>
cn W R N E P x1 cW t40 h) (
cn W R N E P x1 cW aa h)
def cl:N3:=fun W R N E P x1 aq aY h=>
aV aq (.sc (.bool true)) aY fun t41=>
cj W R N E P x1 t41 h
def bV:N2:=fun W R N E P x1 aq h=>
bF false aq (
ai (some 0) x1 fun t42=>
al (some false) (some 1) t42 h fun t43 _=>
ah Pg .gtr 3 true t43 (.sc (.int .i64 64)) fun t45=>
cl W R N E P x1 aq t45 h) (
cl W R N E P x1 aq aa h)
def cy:N1:=fun W R N E P x1 h=>
ai (some 0) x1 fun t46=>
al (some false) (some 1) t46 h fun t47 _=>
ah Pg .lss 3 true t47 (.sc (.int .i64 0)) fun t49=>
bV W R N E P x1 t49 h
def cz:N1:=fun W R N E P x0 h=>
eI 3 27 x0 h fun t50 yT=>
cy W R N E P t50 yT
theorem aM{x0:AV}{h:AH}{M:WK}{R:RK}(hp:cz (fun id=>M id\/h.next<=id) (aJ Pg [.tmp 2,.tmp 3] R) (aJ Pg [.tmp 2,.tmp 3] R) (fun _ _ _=>False) (fun v h=>R (.cg v) h) x0 h):aE Pg 13 [x0] h M R:=
 fin (n:=53) (pl:=[(1,⟨[(none,(fr 0 4)),(some (3,false),(fr 4 3)),(none,(fr 7 2)),(some (8,false),(fr 9 3)),(none,(fr 12 2)),(some (13,false),(fr 14 3)),(none,(fr 17 1))],false,[],[]⟩)]) (rs:=[.tmp 2,.tmp 3]) (L:=rs) (fun c=>(a1 cz 0 c)) Try.mixed Try.func13 (fun c=>
(sq (a1 cz 0 c)
(sn
(sn
(sq (a1 bz 1 c)
(sn
(sl (a0 n1 c))
(sq (a2 bC 1 4 c)
(bk 0 (lp [1,4,31,32,33] rs [(0,[])] (a5 bD 1 4 31 32 33 c) cB (fun i vs h=>if i=0 then n1 c.W c.R c.N c.E c.P h else c.E i vs h) (.b (.t .o)) fun c=>
(sq (a5 bt 1 4 31 32 33 c)
(sn
(sn
(sm (a5 n2 1 4 31 32 33 c))
(bk 1 (sq (a5 a_ 1 4 31 32 33 c)
(sn
(sq (a7 n6 1 4 5 6 31 32 33 c)
(sq (a6 n5 1 4 5 31 32 33 c)
(cd (a7 n4 1 4 5 31 32 33 50 c) (sl (a1 n3 5 c)) tr)))
(sq (a7 aQ 1 4 5 6 31 32 33 c)
(sq (a8 n9 1 4 5 6 7 31 32 33 c)
(cd (a9 n8 1 4 5 6 7 31 32 33 42 c) (sl (a2 n7 5 7 c)) tr)))))))
(cd (a6 bc 1 4 31 32 33 34 c) tr tr))))))))
(sq (a1 bQ 1 c)
(cd (a2 bO 1 29 c) (sl (a0 bH c)) tr)))
(sn
(cd (a2 cp 1 25 c) (sl (a0 b_ c)) tr)
(gr (gn (a1 cy 1 c) (gx (a2 bV 1 11 c) (gn (a3 cl 1 11 14 c) (gx (a2 cj 1 16 c) (gn (a3 cn 1 16 19 c) (gx (a2 cb 1 21 c) (gl (a3 bW 1 21 24 c))))))))))))) hp
attribute [simp] n1 n2 n3 n4 n5 n6 n7 n8 n9 aQ a_ bc bt bC bz bH bO bQ b_ cp bW cb cn cj cl bV cy cz
end mc
namespace dr
abbrev rs:List Nat:=[4]
def n1:N0:=fun _ R _ _ _ h=>
R [(.sc (.int .i64 0))] h
def n2:N4:=fun _ _ N _ _ x3 mV ou mU h=>
ah Pg .add 3 true mU (.sc (.int .i64 1)) fun t1=>
N [x3,mV,ou,t1] h
def n3:N0:=fun _ R _ _ _ h=>
R [(.sc (.int .i64 113))] h
def n4:N5:=fun W R N E P x3 mV ou mU Md h=>
aH Md (
n3 W R N E P h) (
n2 W R N E P x3 mV ou mU h)
def n5:N6:=fun W R N E P x3 ap aq mV ou mU h=>
ai (some 2) x3 fun t2=>
al (some false) (some 1) t2 h fun t3 _=>
oE (some 1) t3 none (some ap) h fun t5=>
aC Pg W 48 [t5,aq] h (fun t6 h7=>
n4 W R N E P x3 mV ou mU t6 h7) P
def n6:N4:=fun W R N E P x3 mV ou mU h=>
br (some (1,none)) mV mU fun t8=>
al (some false) (some 1) t8 h fun t9 _=>
n5 W R N E P x3 mU t9 mV ou mU h
def n7:N5:=fun W R N E P x3 mV ou mU Me h=>
aH Me (
n6 W R N E P x3 mV ou mU h) (
E 3 [] h)
def n8:N4:=fun W R N E P x3 mV ou mU h=>
ah Pg .lss 3 false mU ou fun t11=>
n7 W R N E P x3 mV ou mU t11 h
def cB:GK:=fun W R N E P N' vs h=>n8 W R N' (fun(i:Nat) (vs:List AV) (h:AH)=>if i=3 then n1 W R N E P h else E i vs h) P (vs.getD 0 aa) (vs.getD 1 aa) (vs.getD 2 aa) (vs.getD 3 aa) h
def n9:N4:=fun W R N E P x3 mV ou mU h=>
cY (cB W R N E P) [x3,mV,ou,mU] h
def aQ:N1:=fun W R N E P x3 h=>
ai (some 2) x3 fun t12=>
al (some false) (some 1) t12 h fun t13 _=>
(ba t13=false)/\bK t13 fun t15=>
n9 W R N E P x3 t13 t15 (.sc (.int .i64 0)) h
def a_:N0:=fun _ R _ _ _ h=>
R [(.sc (.int .i64 112))] h
def bc:N2:=fun W R N E P x3 Mg h=>
aH Mg (
a_ W R N E P h) (
aQ W R N E P x3 h)
def bt:N3:=fun W R N E P x3 kK Zn h=>
aV kK Zn (.sc (.bool false)) fun t16=>
bc W R N E P x3 t16 h
def bD:N4:=fun W R N E P x3 kK zj Mh h=>
bF true kK (
aV zj (.sc (.bool true)) Mh fun t17=>
bt W R N E P x3 kK t17 h) (
bt W R N E P x3 kK aa h)
def bC:N4:=fun W R N E P x2 x3 kK zj h=>
bF false zj (
ai (some 3) x3 fun t18=>
al (some false) (some 1) t18 h fun t19 _=>
ai (some 1) x2 fun t21=>
al (some false) (some 1) t21 h fun t22 _=>
ah Pg .geq 3 false t19 t22 fun t24=>
bD W R N E P x3 kK zj t24 h) (
bD W R N E P x3 kK zj aa h)
def bz:N3:=fun W R N E P x2 x3 kK h=>
bF true kK (
ai (some 3) x3 fun t25=>
al (some false) (some 1) t25 h fun t26 _=>
ah Pg .lss 3 true t26 (.sc (.int .i64 0)) fun t28=>
bC W R N E P x2 x3 kK t28 h) (
bC W R N E P x2 x3 kK aa h)
def bH:N2:=fun W R N E P x2 x3 h=>
ai (some 0) x3 fun t29=>
al (some false) (some 1) t29 h fun t30 _=>
ah Pg .eql 3 true t30 (.sc (.int .i64 2)) fun t32=>
bz W R N E P x2 x3 t32 h
def bO:N5:=fun _ _ N _ _ x2 x3 oh ia ij h=>
ah Pg .add 3 true ij (.sc (.int .i64 1)) fun t33=>
N [x2,x3,oh,ia,t33] h
def bQ:N0:=fun _ R _ _ _ h=>
R [(.sc (.int .i64 112))] h
def b_:N6:=fun W R N E P x2 x3 oh ia ij Zs h=>
aH Zs (
bQ W R N E P h) (
bO W R N E P x2 x3 oh ia ij h)
def cp:N7:=fun W R N E P x2 x3 oh ia ij Ep En h=>
aV Ep (.sc (.bool true)) En fun t34=>
b_ W R N E P x2 x3 oh ia ij t34 h
def bW:N7:=fun W R N E P x2 x3 x9 oh ia ij Ep h=>
bF false Ep (
ai (some 0) x2 fun t35=>
al (some false) (some 1) t35 h fun t36 _=>
ah Pg .geq 3 false x9 t36 fun t38=>
cp W R N E P x2 x3 oh ia ij Ep t38 h) (
cp W R N E P x2 x3 oh ia ij Ep aa h)
def cb:N6:=fun W R N E P x2 x3 x9 oh ia ij h=>
ah Pg .lss 3 true x9 (.sc (.int .i64 0)) fun t39=>
bW W R N E P x2 x3 x9 oh ia ij t39 h
def cn:N5:=fun W R N E P x2 x3 oh ia ij h=>
br (some (1,none)) oh ij fun t40=>
al (some false) (some 1) t40 h fun t41 _=>
cb W R N E P x2 x3 t41 oh ia ij h
def cj:N6:=fun W R N E P x2 x3 oh ia ij gM h=>
aH gM (
cn W R N E P x2 x3 oh ia ij h) (
E 1 [x2,x3] h)
def cl:N5:=fun W R N E P x2 x3 oh ia ij h=>
ah Pg .lss 3 false ij ia fun t43=>
cj W R N E P x2 x3 oh ia ij t43 h
def fY:GK:=fun W R N E P N' vs h=>cl W R N' (fun(i:Nat) (vs:List AV) (h:AH)=>if i=1 then bH W R N E P (vs.getD 0 aa) (vs.getD 1 aa) h else E i vs h) P (vs.getD 0 aa) (vs.getD 1 aa) (vs.getD 2 aa) (vs.getD 3 aa) (vs.getD 4 aa) h
def bV:N5:=fun W R N E P x2 x3 oh ia ij h=>
cY (fY W R N E P) [x2,x3,oh,ia,ij] h
def cy:N2:=fun W R N E P x2 x3 h=>
ai (some 2) x3 fun t44=>
al (some false) (some 1) t44 h fun t45 _=>
(ba t45=false)/\bK t45 fun t47=>
bV W R N E P x2 x3 t45 t47 (.sc (.int .i64 0)) h
def cz:N0:=fun _ R _ _ _ h=>
R [(.sc (.int .i64 111))] h
def cK:N3:=fun W R N E P x2 x3 Js h=>
aH Js (
cz W R N E P h) (
cy W R N E P x2 x3 h)
def da:N3:=fun W R N E P x2 x3 x7 h=>
ai (some 2) x3 fun t48=>
al (some false) (some 1) t48 h fun t49 _=>
(ba t49=false)/\bK t49 fun t51=>
ah Pg .neq 3 false t51 x7 fun t52=>
cK W R N E P x2 x3 t52 h
def cT:N0:=fun _ R _ _ _ h=>
R [(.sc (.int .i64 80))] h
def dx:N4:=fun W R N E P x2 x3 x7 Ea h=>
aH Ea (
cT W R N E P h) (
da W R N E P x2 x3 x7 h)
def dW:N3:=fun W R N E P x2 x3 x7 h=>
ah Pg .eql 3 true x7 (.sc (.int .i64 0)) fun t53=>
dx W R N E P x2 x3 x7 t53 h
def dT:N2:=fun W R N E P x2 x3 h=>
ai (some 1) x3 fun t54=>
al (some false) (some 1) t54 h fun t55 _=>
aC Pg W 47 [t55] h (fun t57 BC=>
dW W R N E P x2 x3 t57 BC) P
def dV:N4:=fun W R N E P x2 x3 x7 tG h=>
aH tG (
dT W R N E P x2 x3 h) (
da W R N E P x2 x3 x7 h)
def ed:N3:=fun W R N E P x2 x3 x7 h=>
ai (some 0) x3 fun t59=>
al (some false) (some 1) t59 h fun t60 _=>
ah Pg .eql 3 true t60 (.sc (.int .i64 1)) fun t62=>
dV W R N E P x2 x3 x7 t62 h
def eJ:N2:=fun W R N E P x2 x3 h=>
ed W R N E P x2 x3 (.sc (.int .i64 1)) h
def dF:N0:=fun _ R _ _ _ h=>
R [(.sc (.int .i64 120))] h
def d_:N0:=fun _ R _ _ _ h=>
R [(.sc (.int .i64 120))] h
def dL:N3:=fun W R N E P x2 x3 vj h=>
aH vj (
d_ W R N E P h) (
eJ W R N E P x2 x3 h)
def eC:N4:=fun W R N E P x2 x3 oq pQ h=>
aV oq pQ (.sc (.bool false)) fun t63=>
dL W R N E P x2 x3 t63 h
def eu:N3:=fun W R N E P x2 x3 oq h=>
bF true oq (
ai (some 3) x3 fun t64=>
al (some false) (some 1) t64 h fun t65 _=>
ah Pg .neq 3 true t65 (.sc (.int .i64 0)) fun t67=>
eC W R N E P x2 x3 oq t67 h) (
eC W R N E P x2 x3 oq aa h)
def dO:N2:=fun W R N E P x2 x3 h=>
ai (some 0) x3 fun t68=>
al (some false) (some 1) t68 h fun t69 _=>
ah Pg .neq 3 true t69 (.sc (.int .i64 2)) fun t71=>
eu W R N E P x2 x3 t71 h
def e_:N3:=fun W R N E P x2 x3 vj h=>
aH vj (
dL W R N E P x2 x3 vj h) (
dO W R N E P x2 x3 h)
def fg:N4:=fun W R N E P x2 x3 v_ tH h=>
aV v_ tH (.sc (.bool false)) fun t72=>
e_ W R N E P x2 x3 t72 h
def hG:N3:=fun W R N E P x2 x3 v_ h=>
bF true v_ (
ai (some 1) x3 fun t73=>
al (some false) (some 1) t73 h fun t74 _=>
ah Pg .neq 9 true t74 (.sc (.string ⟨#[]⟩)) fun t76=>
fg W R N E P x2 x3 v_ t76 h) (
fg W R N E P x2 x3 v_ aa h)
def gg:N2:=fun W R N E P x2 x3 h=>
ai (some 0) x3 fun t77=>
al (some false) (some 1) t77 h fun t78 _=>
ah Pg .neq 3 true t78 (.sc (.int .i64 1)) fun t80=>
hG W R N E P x2 x3 t80 h
def fq:N3:=fun W R N E P x2 x3 fS h=>
aH fS (
dF W R N E P h) (
gg W R N E P x2 x3 h)
def iu:N3:=fun W R N E P x2 x3 fS h=>
aH fS (
fq W R N E P x2 x3 fS h) (
ai (some 6) x3 fun t81=>
al (some false) (some 1) t81 h fun t82 _=>
ai (some 5) x3 fun t84=>
al (some false) (some 1) t84 h fun t85 _=>
ah Pg .andNot 47 false t82 t85 fun t87=>
ah Pg .neq 47 true t87 (.sc (.int .u64 0)) fun t88=>
fq W R N E P x2 x3 t88 h)
def jD:N3:=fun W R N E P x2 x3 x6 h=>
ai (some 5) x3 fun t89=>
al (some false) (some 1) t89 h fun t90 _=>
ah Pg .andNot 47 false t90 x6 fun t92=>
ah Pg .neq 47 true t92 (.sc (.int .u64 0)) fun t93=>
iu W R N E P x2 x3 t93 h
def jC:N4:=fun W R N E P x2 x3 x6 fS h=>
aH fS (
fq W R N E P x2 x3 fS h) (
jD W R N E P x2 x3 x6 h)
def ir:N5:=fun W R N E P x2 x3 x6 gL Av h=>
aV gL Av (.sc (.bool false)) fun t94=>
jC W R N E P x2 x3 x6 t94 h
def kO:N6:=fun W R N E P x2 x3 x6 gL jn wg h=>
bF true gL (
aV jn (.sc (.bool true)) wg fun t95=>
ir W R N E P x2 x3 x6 gL t95 h) (
ir W R N E P x2 x3 x6 gL aa h)
def mQ:N5:=fun W R N E P x2 x3 x6 gL jn h=>
bF false jn (
ai (some 6) x3 fun t96=>
al (some false) (some 1) t96 h fun t97 _=>
ah Pg .neq 47 true t97 (.sc (.int .u64 0)) fun t99=>
kO W R N E P x2 x3 x6 gL jn t99 h) (
kO W R N E P x2 x3 x6 gL jn aa h)
def mq:N4:=fun W R N E P x2 x3 x6 gL h=>
bF true gL (
ai (some 5) x3 fun t100=>
al (some false) (some 1) t100 h fun t101 _=>
ah Pg .neq 47 true t101 (.sc (.int .u64 0)) fun t103=>
mQ W R N E P x2 x3 x6 gL t103 h) (
mQ W R N E P x2 x3 x6 gL aa h)
def sF:N3:=fun W R N E P x2 x3 x6 h=>
ai (some 4) x3 fun t104=>
al (some false) (some 1) t104 h fun t105 _=>
im .not t105 fun t107=>
mq W R N E P x2 x3 x6 t107 h
def qz:N4:=fun W R N E P x2 x3 x6 fS h=>
aH fS (
fq W R N E P x2 x3 fS h) (
sF W R N E P x2 x3 x6 h)
def sE:N5:=fun W R N E P x2 x3 x6 kf Ee h=>
aV kf Ee (.sc (.bool false)) fun t108=>
qz W R N E P x2 x3 x6 t108 h
def pZ:N4:=fun W R N E P x2 x3 x6 kf h=>
bF true kf (
ai (some 5) x3 fun t109=>
al (some false) (some 1) t109 h fun t110 _=>
ah Pg .eql 47 true t110 (.sc (.int .u64 0)) fun t112=>
sE W R N E P x2 x3 x6 kf t112 h) (
sE W R N E P x2 x3 x6 kf aa h)
def C8:N3:=fun W R N E P x2 x3 x6 h=>
ai (some 4) x3 fun t113=>
al (some false) (some 1) t113 h fun t114 _=>
pZ W R N E P x2 x3 x6 t114 h
def A3:N4:=fun W R N E P x2 x3 x6 fS h=>
aH fS (
fq W R N E P x2 x3 fS h) (
C8 W R N E P x2 x3 x6 h)
def vz:N4:=fun W R N E P x2 x3 x5 x6 h=>
im .not x5 fun t116=>
A3 W R N E P x2 x3 x6 t116 h
def C7:N5:=fun W R N E P x2 x3 x5 x6 gX h=>
aH gX (
vz W R N E P x2 x3 x5 (.sc (.int .u64 18446744073709551615)) h) (
vz W R N E P x2 x3 x5 x6 h)
def A0:N4:=fun W R N E P x2 x3 x5 x6 h=>
ai (some 1) x2 fun t117=>
al (some false) (some 1) t117 h fun t118 _=>
ah Pg .eql 3 true t118 (.sc (.int .i64 64)) fun t120=>
C7 W R N E P x2 x3 x5 x6 t120 h
def tQ:N3:=fun W R N E P x2 x3 x5 h=>
ai (some 1) x2 fun t121=>
al (some false) (some 1) t121 h fun t122 _=>
ah Pg .shl 47 true (.sc (.int .u64 1)) t122 fun t124=>
ah Pg .sub 47 true t124 (.sc (.int .u64 1)) fun t125=>
A0 W R N E P x2 x3 x5 t125 h
def yv:N4:=fun W R N E P x2 x3 c_ Ef h=>
aV c_ (.sc (.bool true)) Ef fun t126=>
tQ W R N E P x2 x3 t126 h
def TV:N3:=fun W R N E P x2 x3 c_ h=>
bF false c_ (
ai (some 0) x3 fun t127=>
al (some false) (some 1) t127 h fun t128 _=>
ah Pg .eql 3 true t128 (.sc (.int .i64 3)) fun t130=>
yv W R N E P x2 x3 c_ t130 h) (
yv W R N E P x2 x3 c_ aa h)
def Pz:N4:=fun W R N E P x2 x3 aL bI h=>
aV aL (.sc (.bool true)) bI fun t131=>
TV W R N E P x2 x3 t131 h
def TU:N3:=fun W R N E P x2 x3 aL h=>
bF false aL (
ai (some 0) x3 fun t132=>
al (some false) (some 1) t132 h fun t133 _=>
ah Pg .eql 3 true t133 (.sc (.int .i64 2)) fun t135=>
Pz W R N E P x2 x3 aL t135 h) (
Pz W R N E P x2 x3 aL aa h)
def Py:N2:=fun W R N E P x2 x3 h=>
ai (some 0) x3 fun t136=>
al (some false) (some 1) t136 h fun t137 _=>
ah Pg .eql 3 true t137 (.sc (.int .i64 1)) fun t139=>
TU W R N E P x2 x3 t139 h
def Kk:N2:=fun W R N E P x0 x1 h=>
eI 3 27 x0 h fun t140 NG=>
eI 7 49 x1 NG fun t142 abz=>
Py W R N E P t140 t142 abz
theorem aM{x0 x1:AV}{h:AH}{M:WK}{R:RK}(hp:Kk (fun id=>M id\/h.next<=id) (aJ Pg [.tmp 4] R) (aJ Pg [.tmp 4] R) (fun _ _ _=>False) (fun v h=>R (.cg v) h) x0 x1 h):aE Pg 25 [x0,x1] h M R:=
 fin (n:=142) (pl:=[(1,⟨[(none,(fr 0 4)),(some (3,false),(fr 4 3)),(none,(fr 7 2)),(some (8,false),(fr 9 3)),(none,(fr 12 2))],false,[],[]⟩),(6,⟨[(none,(fr 0 3)),(some (2,true),(fr 3 3)),(none,(fr 6 2))],false,[],[]⟩),(7,⟨[(none,(fr 0 4)),(some (3,true),(fr 4 4)),(some (7,false),(fr 8 3)),(some (3,true),(fr 11 1)),(none,(fr 12 2))],false,[],[]⟩),(11,⟨[(none,(fr 0 4)),(some (3,true),(fr 4 3)),(none,(fr 7 2))],false,[],[]⟩),(12,⟨[(none,(fr 0 4)),(some (3,true),(fr 4 3)),(none,(fr 7 2))],false,[],[]⟩),(24,⟨[(none,(fr 0 3)),(some (2,false),(fr 3 4)),(none,(fr 7 1))],false,[],[]⟩),(27,⟨[(none,(fr 0 4)),(some (3,true),(fr 4 4)),(some (7,false),(fr 8 5)),(some (3,true),(fr 13 1)),(none,(fr 14 1))],false,[],[]⟩)]) (rs:=[.tmp 4]) (L:=rs) (fun c=>(a2 Kk 0 1 c)) Try.mixed Try.func25 (fun c=>
(sq (a2 Kk 0 1 c)
(sn
(sq (a3 tQ 2 3 5 c)
(sn
(sn
(sq (a2 eJ 2 3 c)
(sn
(sn
(sn
(sn
(sn
(sl (a0 n1 c))
(sq (a1 aQ 3 c)
(bk 3 (lp [3,128,129,130] rs [(3,[])] (a4 n9 3 128 129 130 c) cB (fun i vs h=>if i=3 then n1 c.W c.R c.N c.E c.P h else c.E i vs h) (.b (.t .o)) fun c=>
(sq (a4 n8 3 128 129 130 c)
(sn
(sn
(sm (a4 n2 3 128 129 130 c))
(bk 4 (sq (a4 n6 3 128 129 130 c)
(sq (a6 n5 3 10 11 128 129 130 c)
(cd (a5 n4 3 128 129 130 140 c) (sl (a0 n3 c)) tr)))))
(cd (a5 n7 3 128 129 130 131 c) tr tr)))))))
(sn
(cd (a2 bc 3 126 c) (sl (a0 a_ c)) tr)
(gr (gn (a2 bH 2 3 c) (gx (a3 bz 2 3 115 c) (gx (a4 bC 2 3 115 119 c) (gx (a4 bD 3 115 119 124 c) (gl (a3 bt 3 115 125 c)))))))))
(sq (a2 cy 2 3 c)
(bk 1 (lp [2,3,97,98,99] rs [(1,[2,3])] (a5 bV 2 3 97 98 99 c) fY (fun i vs h=>if i=1 then bH c.W c.R c.N c.E c.P (vs.getD 0 aa) (vs.getD 1 aa) h else c.E i vs h) (.b (.t .o)) fun c=>
(sq (a5 cl 2 3 97 98 99 c)
(sn
(sn
(sm (a5 bO 2 3 97 98 99 c))
(bk 2 (sq (a5 cn 2 3 97 98 99 c)
(sn
(cd (a6 b_ 2 3 97 98 99 110 c) (sl (a0 bQ c)) tr)
(gr (gn (a6 cb 2 3 9 97 98 99 c) (gx (a7 bW 2 3 9 97 98 99 105 c) (gl (a7 cp 2 3 97 98 99 105 109 c)))))))))
(cd (a6 cj 2 3 97 98 99 100 c) tr tr)))))))
(sq (a3 da 2 3 7 c)
(cd (a3 cK 2 3 95 c) (sl (a0 cz c)) tr)))
(sq (a3 ed 2 3 7 c)
(cd (a4 dV 2 3 7 85 c) (sq (a2 dT 2 3 c)
(sq (a3 dW 2 3 7 c)
(cd (a4 dx 2 3 7 90 c) (sl (a0 cT c)) tr))) tr))))
(bk 0 (sn
(cd (a3 fq 2 3 32 c) (sl (a0 dF c)) (sn
(cd (a3 dL 2 3 66 c) (sl (a0 d_ c)) tr)
(sn
(cd (a3 e_ 2 3 66 c) tr (gr (gn (a2 dO 2 3 c) (gx (a3 eu 2 3 78 c) (gl (a4 eC 2 3 78 81 c))))))
(gr (gn (a2 gg 2 3 c) (gx (a3 hG 2 3 70 c) (gl (a4 fg 2 3 70 73 c))))))))
(sq (a4 vz 2 3 5 6 c)
(cd (a4 A3 2 3 6 32 c) tr (sn
(cd (a4 qz 2 3 6 32 c) tr (sn
(cd (a4 jC 2 3 6 32 c) tr (sq (a3 jD 2 3 6 c)
(cd (a3 iu 2 3 32 c) tr tr)))
(gr (gn (a3 sF 2 3 6 c) (gx (a4 mq 2 3 6 45 c) (gx (a5 mQ 2 3 6 45 49 c) (gx (a6 kO 2 3 6 45 49 52 c) (gl (a5 ir 2 3 6 45 53 c)))))))))
(gr (gn (a3 C8 2 3 6 c) (gx (a4 pZ 2 3 6 37 c) (gl (a5 sE 2 3 6 37 40 c)))))))))))
(sq (a4 A0 2 3 5 6 c)
(cd (a5 C7 2 3 5 6 31 c) tr tr))))
(gr (gn (a2 Py 2 3 c) (gx (a3 TU 2 3 15 c) (gn (a4 Pz 2 3 15 18 c) (gx (a3 TV 2 3 20 c) (gl (a4 yv 2 3 20 23 c)))))))))) hp
attribute [simp] n1 n2 n3 n4 n5 n6 n7 n8 aQ a_ bc bt bD bC bz bH bO bQ b_ cp bW cb cn cj cl cy cz cK da cT dx dW dT dV ed eJ dF d_ dL eC eu dO e_ fg hG gg fq iu jD jC ir kO mQ mq sF qz sE pZ C8 A3 vz C7 A0 tQ yv TV Pz TU Py Kk
end dr
namespace H5
abbrev rs:List Nat:=[2]
def n1:N1:=fun W R _ _ P x1 h=>
ai (some 1) x1 fun t1=>
al (some false) (some 1) t1 h fun t2 _=>
aC Pg W 49 [t2] h (fun t4 h5=>
R [t4] h5) P
def n2:N0:=fun _ R _ _ _ h=>
R [(.sc (.int .i64 0))] h
def n3:N2:=fun W R N E P x1 x5 h=>
aH x5 (
n2 W R N E P h) (
n1 W R N E P x1 h)
def n4:N1:=fun W R N E P x1 h=>
ai (some 0) x1 fun t6=>
al (some false) (some 1) t6 h fun t7 _=>
ah Pg .neq 3 true t7 (.sc (.int .i64 1)) fun t9=>
n3 W R N E P x1 t9 h
def n5:N1:=fun W R N E P x0 h=>
eI 7 49 x0 h fun t10 nU=>
n4 W R N E P t10 nU
theorem aM{x0:AV}{h:AH}{M:WK}{R:RK}(hp:n5 (fun id=>M id\/h.next<=id) (aJ Pg [.tmp 2] R) (aJ Pg [.tmp 2] R) (fun _ _ _=>False) (fun v h=>R (.cg v) h) x0 h):aE Pg 26 [x0] h M R:=
 fin (n:=9) (pl:=[]) (rs:=[.tmp 2]) (L:=rs) (fun c=>(a1 n5 0 c)) Try.mixed Try.func26 (fun c=>
(sq (a1 n5 0 c)
(sn
(sl (a1 n1 1 c))
(sq (a1 n4 1 c)
(cd (a2 n3 1 5 c) (sl (a0 n2 c)) tr))))) hp
attribute [simp] n1 n2 n3 n4 n5
end H5
namespace mA
abbrev rs:List Nat:=[2,3]
def n1:N0:=fun _ R _ _ _ h=>
R [(.sc (.int .i64 0)),(.sc (.int .i64 0))] h
def n2:N3:=fun _ _ N _ _ x1 x4 x5 h=>
ah Pg .add 3 true x5 (.sc (.int .i64 1)) fun t1=>
N [x1,x4,t1] h
def n3:N1:=fun _ R _ _ _ x5 h=>
R [x5,(.sc (.int .i64 116))] h
def n4:N4:=fun W R N E P x1 x4 x5 wb h=>
aH wb (
n3 W R N E P x5 h) (
n2 W R N E P x1 x4 x5 h)
def n5:N3:=fun W R N E P x1 x4 x5 h=>
ah Pg .gtr 3 true x4 (.sc (.int .i64 36)) fun t2=>
n4 W R N E P x1 x4 x5 t2 h
def n6:N3:=fun W R N E P x1 x4 x5 h=>
ai (some 2) x1 fun t3=>
al (some false) (some 1) t3 h fun t4 _=>
br (some (7,none)) t4 x5 fun t6=>
al (some true) (some 7) t6 h fun t7 _=>
aC Pg W 37 [t7] h (fun t9 pf=>
ah Pg .add 3 false x4 t9 fun t11=>
n5 W R N E P x1 t11 x5 pf) P
def n7:N2:=fun _ R _ _ _ x5 x6 h=>
R [x5,x6] h
def n8:N5:=fun W R N E P x1 x4 x5 x6 jI h=>
aH jI (
n7 W R N E P x5 x6 h) (
n6 W R N E P x1 x4 x5 h)
def n9:N4:=fun W R N E P x1 x4 x5 x6 h=>
ah Pg .neq 3 true x6 (.sc (.int .i64 0)) fun t12=>
n8 W R N E P x1 x4 x5 x6 t12 h
def aQ:N3:=fun W R N E P x1 x4 x5 h=>
ai (some 2) x1 fun t13=>
al (some false) (some 1) t13 h fun t14 _=>
br (some (7,none)) t14 x5 fun t16=>
al (some true) (some 7) t16 h fun t17 _=>
ai (some 0) x1 fun t19=>
al (some false) (some 1) t19 h fun t20 _=>
ai (some 1) x1 fun t22=>
al (some false) (some 1) t22 h fun t23 _=>
aC Pg oY 36 [t17,t20,t23] h (fun t25 mS=>
n9 W R N E P x1 x4 x5 t25 mS) P
def a_:N4:=fun W R N E P x1 x4 x5 ib h=>
aH ib (
aQ W R N E P x1 x4 x5 h) (
E 0 [] h)
def bc:N3:=fun W R N E P x1 x4 x5 h=>
ai (some 2) x1 fun t27=>
al (some false) (some 1) t27 h fun t28 _=>
(ba t28=false)/\bK t28 fun t30=>
ah Pg .lss 3 false x5 t30 fun t31=>
a_ W R N E P x1 x4 x5 t31 h
def cB:GK:=fun W R N E P N' vs h=>bc W R N' (fun(i:Nat) (vs:List AV) (h:AH)=>if i=0 then n1 W R N E P h else E i vs h) P (vs.getD 0 aa) (vs.getD 1 aa) (vs.getD 2 aa) h
def bt:N3:=fun W R N E P x1 x4 x5 h=>
cY (cB W R N E P) [x1,x4,x5] h
def bD:N2:=fun W R N E P x1 x4 h=>
bt W R N E P x1 x4 (.sc (.int .i64 0)) h
def bC:N1:=fun W R N E P x1 h=>
bD W R N E P x1 (.sc (.int .i64 0)) h
def bz:N0:=fun _ R _ _ _ h=>
R [(.sc (.int .i64 0)),(.sc (.int .i64 115))] h
def bH:N2:=fun W R N E P x1 jd h=>
aH jd (
bz W R N E P h) (
bC W R N E P x1 h)
def bO:N1:=fun W R N E P x1 h=>
ai (some 2) x1 fun t32=>
al (some false) (some 1) t32 h fun t33 _=>
(ba t33=false)/\bK t33 fun t35=>
ah Pg .gtr 3 true t35 (.sc (.int .i64 4096)) fun t36=>
bH W R N E P x1 t36 h
def bQ:N0:=fun _ R _ _ _ h=>
R [(.sc (.int .i64 0)),(.sc (.int .i64 2))] h
def b_:N2:=fun W R N E P x1 je h=>
aH je (
bQ W R N E P h) (
bO W R N E P x1 h)
def cp:N3:=fun W R N E P x1 c_ Ef h=>
aV c_ (.sc (.bool true)) Ef fun t37=>
b_ W R N E P x1 t37 h
def bW:N2:=fun W R N E P x1 c_ h=>
bF false c_ (
ai (some 1) x1 fun t38=>
al (some false) (some 1) t38 h fun t39 _=>
ah Pg .gtr 3 true t39 (.sc (.int .i64 64)) fun t41=>
cp W R N E P x1 c_ t41 h) (
cp W R N E P x1 c_ aa h)
def cb:N3:=fun W R N E P x1 aL bI h=>
aV aL (.sc (.bool true)) bI fun t42=>
bW W R N E P x1 t42 h
def cn:N2:=fun W R N E P x1 aL h=>
bF false aL (
ai (some 1) x1 fun t43=>
al (some false) (some 1) t43 h fun t44 _=>
ah Pg .lss 3 true t44 (.sc (.int .i64 0)) fun t46=>
cb W R N E P x1 aL t46 h) (
cb W R N E P x1 aL aa h)
def cj:N3:=fun W R N E P x1 ap bg h=>
aV ap (.sc (.bool true)) bg fun t47=>
cn W R N E P x1 t47 h
def cl:N2:=fun W R N E P x1 ap h=>
bF false ap (
ai (some 0) x1 fun t48=>
al (some false) (some 1) t48 h fun t49 _=>
ah Pg .gtr 3 true t49 (.sc (.int .i64 64)) fun t51=>
cj W R N E P x1 ap t51 h) (
cj W R N E P x1 ap aa h)
def bV:N1:=fun W R N E P x1 h=>
ai (some 0) x1 fun t52=>
al (some false) (some 1) t52 h fun t53 _=>
ah Pg .lss 3 true t53 (.sc (.int .i64 0)) fun t55=>
cl W R N E P x1 t55 h
def cy:N1:=fun W R N E P x0 h=>
eI 3 27 x0 h fun t56 xg=>
bV W R N E P t56 xg
theorem aM{x0:AV}{h:AH}{M:WK}{R:RK}(hp:cy (fun id=>M id\/h.next<=id) (aJ Pg [.tmp 2,.tmp 3] R) (aJ Pg [.tmp 2,.tmp 3] R) (fun _ _ _=>False) (fun v h=>R (.cg v) h) x0 h):aE Pg 19 [x0] h M R:=
 fin (n:=61) (pl:=[(1,⟨[(none,(fr 0 4)),(some (3,false),(fr 4 3)),(none,(fr 7 2)),(some (8,false),(fr 9 3)),(none,(fr 12 2)),(some (13,false),(fr 14 3)),(none,(fr 17 1))],false,[],[]⟩),(9,⟨[(none,(fr 0 11))],false,[],[9]⟩)]) (rs:=[.tmp 2,.tmp 3]) (L:=rs) (fun c=>(a1 cy 0 c)) Try.mixed Try.func19 (fun c=>
(sq (a1 cy 0 c)
(sn
(sn
(sq (a1 bC 1 c)
(sn
(sl (a0 n1 c))
(sq (a2 bD 1 4 c)
(bk 0 (lp [1,4,5] rs [(0,[])] (a3 bt 1 4 5 c) cB (fun i vs h=>if i=0 then n1 c.W c.R c.N c.E c.P h else c.E i vs h) (.b (.t .o)) fun c=>
(sn
(sn
(sm (a3 n2 1 4 5 c))
(bk 1 (sn
(sq (a3 n6 1 4 5 c)
(sq (a3 n5 1 4 5 c)
(cd (a4 n4 1 4 5 59 c) (sl (a1 n3 5 c)) tr)))
(sn
(sq (a4 n9 1 4 5 6 c)
(cd (a5 n8 1 4 5 6 47 c) (sl (a2 n7 5 6 c)) tr))
(gr (gl (a3 aQ 1 4 5 c)))))))
(sq (a3 bc 1 4 5 c)
(cd (a4 a_ 1 4 5 33 c) tr tr))))))))
(sq (a1 bO 1 c)
(cd (a2 bH 1 28 c) (sl (a0 bz c)) tr)))
(sn
(cd (a2 b_ 1 24 c) (sl (a0 bQ c)) tr)
(gr (gn (a1 bV 1 c) (gx (a2 cl 1 10 c) (gn (a3 cj 1 10 13 c) (gx (a2 cn 1 15 c) (gn (a3 cb 1 15 18 c) (gx (a2 bW 1 20 c) (gl (a3 cp 1 20 23 c))))))))))))) hp
attribute [simp] n1 n2 n3 n4 n5 n6 n7 n8 n9 aQ a_ bc bD bC bz bH bO bQ b_ cp bW cb cn cj cl bV cy
end mA
namespace eA
abbrev rs:List Nat:=[6]
def n1:N0:=fun _ R _ _ _ h=>
R [(.sc (.int .i64 0))] h
def n2:N3:=fun _ _ N _ _ x3 x8 ap h=>
ah Pg .add 3 true ap (.sc (.int .i64 1)) fun t1=>
N [x3,x8,t1] h
def n3:N4:=fun _ _ N _ _ x3 x8 ap aq h=>
ah Pg .add 3 true aq (.sc (.int .i64 1)) fun t2=>
N [x3,x8,ap,t2] h
def n4:N0:=fun _ R _ _ _ h=>
R [(.sc (.int .i64 113))] h
def n5:N5:=fun W R N E P x3 x8 ap aq tG h=>
aH tG (
n4 W R N E P h) (
n3 W R N E P x3 x8 ap aq h)
def n6:N4:=fun W R N E P x3 x8 ap aq h=>
ai (some 2) x3 fun t3=>
al (some false) (some 1) t3 h fun t4 _=>
br (some (1,none)) t4 ap fun t6=>
al (some false) (some 1) t6 h fun t7 _=>
ai (some 2) x3 fun t9=>
al (some false) (some 1) t9 h fun t10 _=>
br (some (1,none)) t10 aq fun t12=>
al (some false) (some 1) t12 h fun t13 _=>
ah Pg .eql 3 false t7 t13 fun t15=>
n5 W R N E P x3 x8 ap aq t15 h
def n7:N5:=fun W R N E P x3 x8 ap aq rq h=>
aH rq (
n6 W R N E P x3 x8 ap aq h) (
E 4 [x3,x8,ap] h)
def n8:N4:=fun W R N E P x3 x8 ap aq h=>
ah Pg .lss 3 false aq ap fun t16=>
n7 W R N E P x3 x8 ap aq t16 h
def fY:GK:=fun W R N E P N' vs h=>n8 W R N' (fun(i:Nat) (vs:List AV) (h:AH)=>if i=4 then n2 W R N E P (vs.getD 0 aa) (vs.getD 1 aa) (vs.getD 2 aa) h else if i=3 then n2 W R N E P (vs.getD 0 aa) (vs.getD 1 aa) (vs.getD 2 aa) h else E i vs h) P (vs.getD 0 aa) (vs.getD 1 aa) (vs.getD 2 aa) (vs.getD 3 aa) h
def n9:N4:=fun W R N E P x3 x8 ap aq h=>
cY (fY W R N E P) [x3,x8,ap,aq] h
def aQ:N3:=fun W R N E P x3 x8 ap h=>
n9 W R N E P x3 x8 ap (.sc (.int .i64 0)) h
def a_:N4:=fun W R N E P x3 x8 ap gv h=>
aH gv (
aQ W R N E P x3 x8 ap h) (
E 2 [] h)
def bc:N3:=fun W R N E P x3 x8 ap h=>
ah Pg .lss 3 false ap x8 fun t17=>
a_ W R N E P x3 x8 ap t17 h
def cB:GK:=fun W R N E P N' vs h=>bc W R N' (fun(i:Nat) (vs:List AV) (h:AH)=>if i=2 then n1 W R N E P h else E i vs h) P (vs.getD 0 aa) (vs.getD 1 aa) (vs.getD 2 aa) h
def bt:N3:=fun W R N E P x3 x8 ap h=>
cY (cB W R N E P) [x3,x8,ap] h
def bD:N2:=fun W R N E P x3 x8 h=>
bt W R N E P x3 x8 (.sc (.int .i64 0)) h
def bC:N0:=fun _ R _ _ _ h=>
R [(.sc (.int .i64 112))] h
def bz:N3:=fun W R N E P x3 x8 pR h=>
aH pR (
bC W R N E P h) (
bD W R N E P x3 x8 h)
def bH:N4:=fun W R N E P x3 x8 so Au h=>
aV so Au (.sc (.bool false)) fun t18=>
bz W R N E P x3 x8 t18 h
def bO:N5:=fun W R N E P x3 x8 so wc wa h=>
bF true so (
aV wc (.sc (.bool true)) wa fun t19=>
bH W R N E P x3 x8 so t19 h) (
bH W R N E P x3 x8 so aa h)
def bQ:N5:=fun W R N E P x2 x3 x8 so wc h=>
bF false wc (
ai (some 3) x3 fun t20=>
al (some false) (some 1) t20 h fun t21 _=>
ah Pg .geq 3 false t21 x2 fun t23=>
bO W R N E P x3 x8 so wc t23 h) (
bO W R N E P x3 x8 so wc aa h)
def b_:N4:=fun W R N E P x2 x3 x8 so h=>
bF true so (
ai (some 3) x3 fun t24=>
al (some false) (some 1) t24 h fun t25 _=>
ah Pg .lss 3 true t25 (.sc (.int .i64 0)) fun t27=>
bQ W R N E P x2 x3 x8 so t27 h) (
bQ W R N E P x2 x3 x8 so aa h)
def cp:N3:=fun W R N E P x2 x3 x8 h=>
ai (some 0) x3 fun t28=>
al (some false) (some 1) t28 h fun t29 _=>
ah Pg .eql 3 true t29 (.sc (.int .i64 2)) fun t31=>
b_ W R N E P x2 x3 x8 t31 h
def bW:N5:=fun _ _ N _ _ x1 x2 x3 x8 x9 h=>
ah Pg .add 3 true x9 (.sc (.int .i64 1)) fun t32=>
N [x1,x2,x3,x8,t32] h
def cb:N0:=fun _ R _ _ _ h=>
R [(.sc (.int .i64 112))] h
def cn:N6:=fun W R N E P x1 x2 x3 x8 x9 jZ h=>
aH jZ (
cb W R N E P h) (
bW W R N E P x1 x2 x3 x8 x9 h)
def cj:N7:=fun W R N E P x1 x2 x3 x8 x9 mY jn h=>
aV mY (.sc (.bool true)) jn fun t33=>
cn W R N E P x1 x2 x3 x8 x9 t33 h
def cl:N6:=fun W R N E P x1 x2 x3 x8 x9 mY h=>
bF false mY (
ai (some 2) x3 fun t34=>
al (some false) (some 1) t34 h fun t35 _=>
br (some (1,none)) t35 x9 fun t37=>
al (some false) (some 1) t37 h fun t38 _=>
ah Pg .geq 3 false t38 x1 fun t40=>
cj W R N E P x1 x2 x3 x8 x9 mY t40 h) (
cj W R N E P x1 x2 x3 x8 x9 mY aa h)
def bV:N5:=fun W R N E P x1 x2 x3 x8 x9 h=>
ai (some 2) x3 fun t41=>
al (some false) (some 1) t41 h fun t42 _=>
br (some (1,none)) t42 x9 fun t44=>
al (some false) (some 1) t44 h fun t45 _=>
ah Pg .lss 3 true t45 (.sc (.int .i64 0)) fun t47=>
cl W R N E P x1 x2 x3 x8 x9 t47 h
def cy:N6:=fun W R N E P x1 x2 x3 x8 x9 ib h=>
aH ib (
bV W R N E P x1 x2 x3 x8 x9 h) (
E 0 [x2,x3,x8] h)
def cz:N5:=fun W R N E P x1 x2 x3 x8 x9 h=>
ah Pg .lss 3 false x9 x8 fun t48=>
cy W R N E P x1 x2 x3 x8 x9 t48 h
def kV:GK:=fun W R N E P N' vs h=>cz W R N' (fun(i:Nat) (vs:List AV) (h:AH)=>if i=0 then cp W R N E P (vs.getD 0 aa) (vs.getD 1 aa) (vs.getD 2 aa) h else E i vs h) P (vs.getD 0 aa) (vs.getD 1 aa) (vs.getD 2 aa) (vs.getD 3 aa) (vs.getD 4 aa) h
def cK:N5:=fun W R N E P x1 x2 x3 x8 x9 h=>
cY (kV W R N E P) [x1,x2,x3,x8,x9] h
def da:N4:=fun W R N E P x1 x2 x3 x8 h=>
cK W R N E P x1 x2 x3 x8 (.sc (.int .i64 0)) h
def cT:N0:=fun _ R _ _ _ h=>
R [(.sc (.int .i64 111))] h
def dx:N5:=fun W R N E P x1 x2 x3 x8 tJ h=>
aH tJ (
cT W R N E P h) (
da W R N E P x1 x2 x3 x8 h)
def dW:N4:=fun W R N E P x1 x2 x3 x8 h=>
ai (some 2) x3 fun t49=>
al (some false) (some 1) t49 h fun t50 _=>
(ba t50=false)/\bK t50 fun t52=>
ah Pg .neq 3 false t52 x8 fun t53=>
dx W R N E P x1 x2 x3 x8 t53 h
def dT:N0:=fun _ R _ _ _ h=>
R [(.sc (.int .i64 80))] h
def dV:N5:=fun W R N E P x1 x2 x3 x8 lf h=>
aH lf (
dT W R N E P h) (
dW W R N E P x1 x2 x3 x8 h)
def ed:N4:=fun W R N E P x1 x2 x3 x8 h=>
ah Pg .eql 3 true x8 (.sc (.int .i64 0)) fun t54=>
dV W R N E P x1 x2 x3 x8 t54 h
def eJ:N3:=fun W R N E P x1 x2 x3 h=>
ai (some 1) x3 fun t55=>
al (some false) (some 1) t55 h fun t56 _=>
aC Pg W 54 [t56] h (fun t58 BB=>
ed W R N E P x1 x2 x3 t58 BB) P
def dF:N5:=fun W R N E P x1 x2 x3 x8 c_ h=>
aH c_ (
eJ W R N E P x1 x2 x3 h) (
dW W R N E P x1 x2 x3 x8 h)
def d_:N4:=fun W R N E P x1 x2 x3 x8 h=>
ai (some 0) x3 fun t60=>
al (some false) (some 1) t60 h fun t61 _=>
ah Pg .eql 3 true t61 (.sc (.int .i64 1)) fun t63=>
dF W R N E P x1 x2 x3 x8 t63 h
def dL:N3:=fun W R N E P x1 x2 x3 h=>
d_ W R N E P x1 x2 x3 (.sc (.int .i64 1)) h
def eC:N1:=fun _ R _ _ _ x7 h=>
R [x7] h
def eu:N5:=fun W R N E P x1 x2 x3 x7 cW h=>
aH cW (
eC W R N E P x7 h) (
dL W R N E P x1 x2 x3 h)
def dO:N4:=fun W R N E P x1 x2 x3 x7 h=>
ah Pg .neq 3 true x7 (.sc (.int .i64 0)) fun t64=>
eu W R N E P x1 x2 x3 x7 t64 h
def e_:N3:=fun W R N E P x1 x2 x3 h=>
al (some true) (some 7) x3 h fun t65 _=>
aC Pg W 56 [t65,x2] h (fun t67 K_=>
dO W R N E P x1 x2 x3 t67 K_) P
def fg:N3:=fun W R N E P x0 x1 x2 h=>
eI 7 49 x0 h fun t69 xc=>
e_ W R N E P x1 x2 t69 xc
theorem aM{x0 x1 x2:AV}{h:AH}{M:WK}{R:RK}(hp:fg (fun id=>M id\/h.next<=id) (aJ Pg [.tmp 6] R) (aJ Pg [.tmp 6] R) (fun _ _ _=>False) (fun v h=>R (.cg v) h) x0 x1 x2 h):aE Pg 36 [x0,x1,x2] h M R:=
 fin (n:=86) (pl:=[(14,⟨[(none,(fr 0 7)),(some (6,false),(fr 7 7)),(none,(fr 14 1))],false,[],[]⟩),(16,⟨[(none,(fr 0 4)),(some (3,true),(fr 4 4)),(some (7,false),(fr 8 4)),(some (3,true),(fr 12 1)),(none,(fr 13 1))],false,[],[]⟩),(24,⟨[(none,(fr 0 11))],false,[],[]⟩)]) (rs:=[.tmp 6]) (L:=rs) (fun c=>(a3 fg 0 1 2 c)) Try.mixed Try.func36 (fun c=>
(sq (a3 fg 0 1 2 c)
(sn
(sq (a3 dL 1 2 3 c)
(sn
(sn
(sn
(sn
(sn
(sl (a0 n1 c))
(sq (a2 bD 3 8 c)
(bk 2 (lp [3,8,10] rs [(2,[])] (a3 bt 3 8 10 c) cB (fun i vs h=>if i=2 then n1 c.W c.R c.N c.E c.P h else c.E i vs h) (.b (.t .o)) fun c=>
(sn
(sn
(sm (a3 n2 3 8 10 c))
(bk 3 (sq (a3 aQ 3 8 10 c)
(bk 4 (lp [3,8,10,11] rs [(4,[3,8,10]),(3,[3,8,10]),(2,[])] (a4 n9 3 8 10 11 c) fY (fun i vs h=>if i=4 then n2 c.W c.R c.N c.E c.P (vs.getD 0 aa) (vs.getD 1 aa) (vs.getD 2 aa) h else if i=3 then n2 c.W c.R c.N c.E c.P (vs.getD 0 aa) (vs.getD 1 aa) (vs.getD 2 aa) h else c.E i vs h) (.b (.b (.t .o))) fun c=>
(sn
(sn
(sm (a4 n3 3 8 10 11 c))
(bk 5 (sq (a4 n6 3 8 10 11 c)
(cd (a5 n5 3 8 10 11 85 c) (sl (a0 n4 c)) tr))))
(sq (a4 n8 3 8 10 11 c)
(cd (a5 n7 3 8 10 11 72 c) tr tr))))))))
(sq (a3 bc 3 8 10 c)
(cd (a4 a_ 3 8 10 67 c) tr tr)))))))
(sn
(cd (a3 bz 3 8 64 c) (sl (a0 bC c)) tr)
(gr (gn (a3 cp 2 3 8 c) (gx (a4 b_ 2 3 8 54 c) (gx (a5 bQ 2 3 8 54 58 c) (gx (a5 bO 3 8 54 58 62 c) (gl (a4 bH 3 8 54 63 c)))))))))
(sq (a4 da 1 2 3 8 c)
(bk 0 (lp [1,2,3,8,9] rs [(0,[2,3,8])] (a5 cK 1 2 3 8 9 c) kV (fun i vs h=>if i=0 then cp c.W c.R c.N c.E c.P (vs.getD 0 aa) (vs.getD 1 aa) (vs.getD 2 aa) h else c.E i vs h) (.b (.t .o)) fun c=>
(sn
(sn
(sm (a5 bW 1 2 3 8 9 c))
(bk 1 (sn
(cd (a6 cn 1 2 3 8 9 50 c) (sl (a0 cb c)) tr)
(gr (gn (a5 bV 1 2 3 8 9 c) (gx (a6 cl 1 2 3 8 9 42 c) (gl (a7 cj 1 2 3 8 9 42 49 c))))))))
(sq (a5 cz 1 2 3 8 9 c)
(cd (a6 cy 1 2 3 8 9 33 c) tr tr)))))))
(sq (a4 dW 1 2 3 8 c)
(cd (a5 dx 1 2 3 8 30 c) (sl (a0 cT c)) tr)))
(sq (a4 d_ 1 2 3 8 c)
(cd (a5 dF 1 2 3 8 20 c) (sq (a3 eJ 1 2 3 c)
(sq (a4 ed 1 2 3 8 c)
(cd (a5 dV 1 2 3 8 25 c) (sl (a0 dT c)) tr))) tr))))
(sq (a3 e_ 1 2 3 c)
(sq (a4 dO 1 2 3 7 c)
(cd (a5 eu 1 2 3 7 16 c) (sl (a1 eC 7 c)) tr)))))) hp
attribute [simp] n1 n2 n3 n4 n5 n6 n7 n8 aQ a_ bc bD bC bz bH bO bQ b_ cp bW cb cn cj cl bV cy cz da cT dx dW dT dV ed eJ dF d_ dL eC eu dO e_ fg
end eA
namespace H3
abbrev rs:List Nat:=[2]
def n1:N0:=fun _ R _ _ _ h=>
R [(.sc (.int .i64 0))] h
def n2:N1:=fun W R _ _ P x1 h=>
ai (some 1) x1 fun t1=>
al (some false) (some 1) t1 h fun t2 _=>
aC Pg W 57 [t2] h (fun t4 h5=>
R [t4] h5) P
def n3:N2:=fun W R N E P x1 x5 h=>
aH x5 (
n2 W R N E P x1 h) (
n1 W R N E P h)
def n4:N1:=fun W R N E P x1 h=>
ai (some 0) x1 fun t6=>
al (some false) (some 1) t6 h fun t7 _=>
ah Pg .eql 3 true t7 (.sc (.int .i64 1)) fun t9=>
n3 W R N E P x1 t9 h
def n5:N1:=fun W R N E P x0 h=>
eI 7 49 x0 h fun t10 nU=>
n4 W R N E P t10 nU
theorem aM{x0:AV}{h:AH}{M:WK}{R:RK}(hp:n5 (fun id=>M id\/h.next<=id) (aJ Pg [.tmp 2] R) (aJ Pg [.tmp 2] R) (fun _ _ _=>False) (fun v h=>R (.cg v) h) x0 h):aE Pg 37 [x0] h M R:=
 fin (n:=9) (pl:=[]) (rs:=[.tmp 2]) (L:=rs) (fun c=>(a1 n5 0 c)) Try.mixed Try.func37 (fun c=>
(sq (a1 n5 0 c)
(sn
(sl (a0 n1 c))
(sq (a1 n4 1 c)
(cd (a2 n3 1 5 c) (sl (a1 n2 1 c)) tr))))) hp
attribute [simp] n1 n2 n3 n4 n5
end H3
namespace YW
abbrev rs:List Nat:=[2]
def n1:N0:=fun _ R _ _ _ h=>
R [(.sc (.int .i64 0))] h
def n2:N0:=fun _ R _ _ _ h=>
R [(.sc (.int .i64 1))] h
def n3:N0:=fun _ R _ _ _ h=>
R [(.sc (.int .i64 2))] h
def n4:N0:=fun _ R _ _ _ h=>
R [(.sc (.int .i64 3))] h
def n5:N1:=fun W R N E P jd h=>
aH jd (
n4 W R N E P h) (
n1 W R N E P h)
def n6:N2:=fun W R N E P x3 jd h=>
aH jd (
n5 W R N E P jd h) (
ah Pg .eql 9 true x3 (.sc (.string ⟨#[99,115,119,97,112]⟩)) fun t1=>
n5 W R N E P t1 h)
def n7:N1:=fun W R N E P x3 h=>
ah Pg .eql 9 true x3 (.sc (.string ⟨#[99,99,122]⟩)) fun t2=>
n6 W R N E P x3 t2 h
def n8:N2:=fun W R N E P x3 jd h=>
aH jd (
n5 W R N E P jd h) (
n7 W R N E P x3 h)
def n9:N1:=fun W R N E P x3 h=>
ah Pg .eql 9 true x3 (.sc (.string ⟨#[99,99,120]⟩)) fun t3=>
n8 W R N E P x3 t3 h
def aQ:N2:=fun W R N E P x3 bI h=>
aH bI (
n3 W R N E P h) (
n9 W R N E P x3 h)
def a_:N2:=fun W R N E P x3 bI h=>
aH bI (
aQ W R N E P x3 bI h) (
ah Pg .eql 9 true x3 (.sc (.string ⟨#[105,115,119,97,112,100,103]⟩)) fun t4=>
aQ W R N E P x3 t4 h)
def bc:N1:=fun W R N E P x3 h=>
ah Pg .eql 9 true x3 (.sc (.string ⟨#[105,115,119,97,112]⟩)) fun t5=>
a_ W R N E P x3 t5 h
def bt:N2:=fun W R N E P x3 bI h=>
aH bI (
aQ W R N E P x3 bI h) (
bc W R N E P x3 h)
def bD:N1:=fun W R N E P x3 h=>
ah Pg .eql 9 true x3 (.sc (.string ⟨#[115,119,97,112]⟩)) fun t6=>
bt W R N E P x3 t6 h
def bC:N2:=fun W R N E P x3 bI h=>
aH bI (
aQ W R N E P x3 bI h) (
bD W R N E P x3 h)
def bz:N1:=fun W R N E P x3 h=>
ah Pg .eql 9 true x3 (.sc (.string ⟨#[99,115,100,103]⟩)) fun t7=>
bC W R N E P x3 t7 h
def bH:N2:=fun W R N E P x3 bI h=>
aH bI (
aQ W R N E P x3 bI h) (
bz W R N E P x3 h)
def bO:N1:=fun W R N E P x3 h=>
ah Pg .eql 9 true x3 (.sc (.string ⟨#[99,115]⟩)) fun t8=>
bH W R N E P x3 t8 h
def bQ:N2:=fun W R N E P x3 bI h=>
aH bI (
aQ W R N E P x3 bI h) (
bO W R N E P x3 h)
def b_:N1:=fun W R N E P x3 h=>
ah Pg .eql 9 true x3 (.sc (.string ⟨#[99,104]⟩)) fun t9=>
bQ W R N E P x3 t9 h
def cp:N2:=fun W R N E P x3 bI h=>
aH bI (
aQ W R N E P x3 bI h) (
b_ W R N E P x3 h)
def bW:N1:=fun W R N E P x3 h=>
ah Pg .eql 9 true x3 (.sc (.string ⟨#[99,122]⟩)) fun t10=>
cp W R N E P x3 t10 h
def cb:N2:=fun W R N E P x3 bI h=>
aH bI (
aQ W R N E P x3 bI h) (
bW W R N E P x3 h)
def cn:N1:=fun W R N E P x3 h=>
ah Pg .eql 9 true x3 (.sc (.string ⟨#[99,121]⟩)) fun t11=>
cb W R N E P x3 t11 h
def cj:N2:=fun W R N E P x3 bI h=>
aH bI (
aQ W R N E P x3 bI h) (
cn W R N E P x3 h)
def cl:N1:=fun W R N E P x3 h=>
ah Pg .eql 9 true x3 (.sc (.string ⟨#[99,120]⟩)) fun t12=>
cj W R N E P x3 t12 h
def bV:N2:=fun W R N E P x3 x4 h=>
aH x4 (
n2 W R N E P h) (
cl W R N E P x3 h)
def cy:N2:=fun W R N E P x3 x4 h=>
aH x4 (
bV W R N E P x3 x4 h) (
ah Pg .eql 9 true x3 (.sc (.string ⟨#[119,100,103]⟩)) fun t13=>
bV W R N E P x3 t13 h)
def cz:N1:=fun W R N E P x3 h=>
ah Pg .eql 9 true x3 (.sc (.string ⟨#[119]⟩)) fun t14=>
cy W R N E P x3 t14 h
def cK:N2:=fun W R N E P x3 x4 h=>
aH x4 (
bV W R N E P x3 x4 h) (
cz W R N E P x3 h)
def da:N1:=fun W R N E P x3 h=>
ah Pg .eql 9 true x3 (.sc (.string ⟨#[118,100,103]⟩)) fun t15=>
cK W R N E P x3 t15 h
def cT:N2:=fun W R N E P x3 x4 h=>
aH x4 (
bV W R N E P x3 x4 h) (
da W R N E P x3 h)
def dx:N1:=fun W R N E P x3 h=>
ah Pg .eql 9 true x3 (.sc (.string ⟨#[118]⟩)) fun t16=>
cT W R N E P x3 t16 h
def dW:N2:=fun W R N E P x3 x4 h=>
aH x4 (
bV W R N E P x3 x4 h) (
dx W R N E P x3 h)
def dT:N1:=fun W R N E P x3 h=>
ah Pg .eql 9 true x3 (.sc (.string ⟨#[116,100,103]⟩)) fun t17=>
dW W R N E P x3 t17 h
def dV:N2:=fun W R N E P x3 x4 h=>
aH x4 (
bV W R N E P x3 x4 h) (
dT W R N E P x3 h)
def ed:N1:=fun W R N E P x3 h=>
ah Pg .eql 9 true x3 (.sc (.string ⟨#[116]⟩)) fun t18=>
dV W R N E P x3 t18 h
def eJ:N2:=fun W R N E P x3 x4 h=>
aH x4 (
bV W R N E P x3 x4 h) (
ed W R N E P x3 h)
def dF:N1:=fun W R N E P x3 h=>
ah Pg .eql 9 true x3 (.sc (.string ⟨#[115,100,103]⟩)) fun t19=>
eJ W R N E P x3 t19 h
def d_:N2:=fun W R N E P x3 x4 h=>
aH x4 (
bV W R N E P x3 x4 h) (
dF W R N E P x3 h)
def dL:N1:=fun W R N E P x3 h=>
ah Pg .eql 9 true x3 (.sc (.string ⟨#[115]⟩)) fun t20=>
d_ W R N E P x3 t20 h
def eC:N2:=fun W R N E P x3 x4 h=>
aH x4 (
bV W R N E P x3 x4 h) (
dL W R N E P x3 h)
def eu:N1:=fun W R N E P x3 h=>
ah Pg .eql 9 true x3 (.sc (.string ⟨#[104]⟩)) fun t21=>
eC W R N E P x3 t21 h
def dO:N2:=fun W R N E P x3 x4 h=>
aH x4 (
bV W R N E P x3 x4 h) (
eu W R N E P x3 h)
def e_:N1:=fun W R N E P x3 h=>
ah Pg .eql 9 true x3 (.sc (.string ⟨#[122]⟩)) fun t22=>
dO W R N E P x3 t22 h
def fg:N2:=fun W R N E P x3 x4 h=>
aH x4 (
bV W R N E P x3 x4 h) (
e_ W R N E P x3 h)
def hG:N1:=fun W R N E P x3 h=>
ah Pg .eql 9 true x3 (.sc (.string ⟨#[121]⟩)) fun t23=>
fg W R N E P x3 t23 h
def gg:N2:=fun W R N E P x3 x4 h=>
aH x4 (
bV W R N E P x3 x4 h) (
hG W R N E P x3 h)
def fq:N1:=fun W R N E P x3 h=>
ah Pg .eql 9 true x3 (.sc (.string ⟨#[120]⟩)) fun t24=>
gg W R N E P x3 t24 h
def iu:N2:=fun W R N E P x3 x4 h=>
aH x4 (
bV W R N E P x3 x4 h) (
fq W R N E P x3 h)
def jD:N1:=fun W R N E P x3 h=>
ah Pg .eql 9 true x3 (.sc (.string ⟨#[105]⟩)) fun t25=>
iu W R N E P x3 t25 h
def jC:N1:=fun W R N E P x0 h=>
jD W R N E P x0 h
def ir:N1:=fun W R N E P x0 h=>
jC W R N E P x0 h
theorem aM{x0:AV}{h:AH}{M:WK}{R:RK}(hp:ir (fun id=>M id\/h.next<=id) (aJ Pg [.tmp 2] R) (aJ Pg [.tmp 2] R) (fun _ _ _=>False) (fun v h=>R (.cg v) h) x0 h):aE Pg 54 [x0] h M R:=
 fin (n:=32) (pl:=[]) (rs:=[.tmp 2]) (L:=rs) (fun c=>(a1 ir 0 c)) Try.mixed Try.func54 (fun c=>
(sq (a1 ir 0 c)
(sn
(sl (a0 n1 c))
(sq (a1 jC 0 c)
(bk 0 (sn
(cd (a2 bV 3 4 c) (sl (a0 n2 c)) (sn
(cd (a2 aQ 3 18 c) (sl (a0 n3 c)) (sn
(cd (a1 n5 28 c) (sl (a0 n4 c)) tr)
(sq (a1 n9 3 c)
(cd (a2 n8 3 28 c) tr (sq (a1 n7 3 c)
(cd (a2 n6 3 28 c) tr tr))))))
(sq (a1 cl 3 c)
(cd (a2 cj 3 18 c) tr (sq (a1 cn 3 c)
(cd (a2 cb 3 18 c) tr (sq (a1 bW 3 c)
(cd (a2 cp 3 18 c) tr (sq (a1 b_ 3 c)
(cd (a2 bQ 3 18 c) tr (sq (a1 bO 3 c)
(cd (a2 bH 3 18 c) tr (sq (a1 bz 3 c)
(cd (a2 bC 3 18 c) tr (sq (a1 bD 3 c)
(cd (a2 bt 3 18 c) tr (sq (a1 bc 3 c)
(cd (a2 a_ 3 18 c) tr tr))))))))))))))))))
(sq (a1 jD 3 c)
(cd (a2 iu 3 4 c) tr (sq (a1 fq 3 c)
(cd (a2 gg 3 4 c) tr (sq (a1 hG 3 c)
(cd (a2 fg 3 4 c) tr (sq (a1 e_ 3 c)
(cd (a2 dO 3 4 c) tr (sq (a1 eu 3 c)
(cd (a2 eC 3 4 c) tr (sq (a1 dL 3 c)
(cd (a2 d_ 3 4 c) tr (sq (a1 dF 3 c)
(cd (a2 eJ 3 4 c) tr (sq (a1 ed 3 c)
(cd (a2 dV 3 4 c) tr (sq (a1 dT 3 c)
(cd (a2 dW 3 4 c) tr (sq (a1 dx 3 c)
(cd (a2 cT 3 4 c) tr (sq (a1 da 3 c)
(cd (a2 cK 3 4 c) tr (sq (a1 cz 3 c)
(cd (a2 cy 3 4 c) tr tr)))))))))))))))))))))))))))))) hp
attribute [simp] n1 n2 n3 n4 n5 n6 n7 n8 n9 aQ a_ bc bt bD bC bz bH bO bQ b_ cp bW cb cn cj cl bV cy cz cK da cT dx dW dT dV ed eJ dF d_ dL eC eu dO e_ fg hG gg fq iu jD jC ir
end YW
namespace lK
abbrev rs:List Nat:=[4]
def n1:N0:=fun _ R _ _ _ h=>
R [(.sc (.int .i64 0))] h
def n2:N0:=fun _ R _ _ _ h=>
R [(.sc (.int .i64 120))] h
def n3:N1:=fun W R N E P pR h=>
aH pR (
n2 W R N E P h) (
n1 W R N E P h)
def n4:N2:=fun W R N E P iI Au h=>
aV iI (.sc (.bool true)) Au fun t1=>
n3 W R N E P t1 h
def n5:N3:=fun W R N E P iI wb wa h=>
bF false iI (
aV wb wa (.sc (.bool false)) fun t2=>
n4 W R N E P iI t2 h) (
n4 W R N E P iI aa h)
def n6:N3:=fun W R N E P x2 iI wb h=>
bF true wb (
ai (some 3) x2 fun t3=>
al (some false) (some 1) t3 h fun t4 _=>
ah Pg .neq 3 true t4 (.sc (.int .i64 0)) fun t6=>
n5 W R N E P iI wb t6 h) (
n5 W R N E P iI wb aa h)
def n7:N2:=fun W R N E P x2 iI h=>
bF false iI (
ai (some 0) x2 fun t7=>
al (some false) (some 1) t7 h fun t8 _=>
ah Pg .neq 3 true t8 (.sc (.int .i64 2)) fun t10=>
n6 W R N E P x2 iI t10 h) (
n6 W R N E P x2 iI aa h)
def n8:N3:=fun W R N E P x2 jZ Av h=>
aV jZ Av (.sc (.bool false)) fun t11=>
n7 W R N E P x2 t11 h
def n9:N2:=fun W R N E P x2 jZ h=>
bF true jZ (
ai (some 1) x2 fun t12=>
al (some false) (some 1) t12 h fun t13 _=>
ah Pg .neq 9 true t13 (.sc (.string ⟨#[]⟩)) fun t15=>
n8 W R N E P x2 jZ t15 h) (
n8 W R N E P x2 jZ aa h)
def aQ:N1:=fun W R N E P x2 h=>
ai (some 0) x2 fun t16=>
al (some false) (some 1) t16 h fun t17 _=>
ah Pg .neq 3 true t17 (.sc (.int .i64 1)) fun t19=>
n9 W R N E P x2 t19 h
def a_:N0:=fun _ R _ _ _ h=>
R [(.sc (.int .i64 120))] h
def bc:N2:=fun W R N E P x2 Ju h=>
aH Ju (
a_ W R N E P h) (
aQ W R N E P x2 h)
def bt:N3:=fun W R N E P x2 jd gL h=>
aV jd gL (.sc (.bool false)) fun t20=>
bc W R N E P x2 t20 h
def bD:N4:=fun W R N E P x2 jd wj gE h=>
bF true jd (
aV wj (.sc (.bool true)) gE fun t21=>
bt W R N E P x2 jd t21 h) (
bt W R N E P x2 jd aa h)
def bC:N3:=fun W R N E P x2 jd wj h=>
bF false wj (
ai (some 6) x2 fun t22=>
al (some false) (some 1) t22 h fun t23 _=>
ai (some 5) x2 fun t25=>
al (some false) (some 1) t25 h fun t26 _=>
ah Pg .andNot 47 false t23 t26 fun t28=>
ah Pg .neq 47 true t28 (.sc (.int .u64 0)) fun t29=>
bD W R N E P x2 jd wj t29 h) (
bD W R N E P x2 jd wj aa h)
def bz:N4:=fun W R N E P x2 jd fS kA h=>
bF true jd (
aV fS (.sc (.bool true)) kA fun t30=>
bC W R N E P x2 jd t30 h) (
bC W R N E P x2 jd aa h)
def bH:N4:=fun W R N E P x1 x2 jd fS h=>
bF false fS (
ai (some 5) x2 fun t31=>
al (some false) (some 1) t31 h fun t32 _=>
aC Pg W 83 [t32,x1] h (fun t34 oM=>
bz W R N E P x2 jd fS t34 oM) P) (
bz W R N E P x2 jd fS aa h)
def bO:N3:=fun W R N E P x1 x2 jd h=>
bF true jd (
ai (some 5) x2 fun t36=>
al (some false) (some 1) t36 h fun t37 _=>
ah Pg .eql 47 true t37 (.sc (.int .u64 0)) fun t39=>
bH W R N E P x1 x2 jd t39 h) (
bH W R N E P x1 x2 jd aa h)
def bQ:N2:=fun W R N E P x1 x2 h=>
ai (some 4) x2 fun t40=>
al (some false) (some 1) t40 h fun t41 _=>
bO W R N E P x1 x2 t41 h
def b_:N0:=fun _ R _ _ _ h=>
R [(.sc (.int .i64 120))] h
def cp:N3:=fun W R N E P x1 x2 lf h=>
aH lf (
b_ W R N E P h) (
bQ W R N E P x1 x2 h)
def bW:N4:=fun W R N E P x1 x2 cW je h=>
aV cW je (.sc (.bool false)) fun t43=>
cp W R N E P x1 x2 t43 h
def cb:N5:=fun W R N E P x1 x2 cW c_ Ef h=>
bF true cW (
aV c_ (.sc (.bool true)) Ef fun t44=>
bW W R N E P x1 x2 cW t44 h) (
bW W R N E P x1 x2 cW aa h)
def cn:N4:=fun W R N E P x1 x2 cW c_ h=>
bF false c_ (
ai (some 6) x2 fun t45=>
al (some false) (some 1) t45 h fun t46 _=>
ah Pg .neq 47 true t46 (.sc (.int .u64 0)) fun t48=>
cb W R N E P x1 x2 cW c_ t48 h) (
cb W R N E P x1 x2 cW c_ aa h)
def cj:N3:=fun W R N E P x1 x2 cW h=>
bF true cW (
ai (some 5) x2 fun t49=>
al (some false) (some 1) t49 h fun t50 _=>
ah Pg .neq 47 true t50 (.sc (.int .u64 0)) fun t52=>
cn W R N E P x1 x2 cW t52 h) (
cn W R N E P x1 x2 cW aa h)
def cl:N2:=fun W R N E P x1 x2 h=>
ai (some 4) x2 fun t53=>
al (some false) (some 1) t53 h fun t54 _=>
im .not t54 fun t56=>
cj W R N E P x1 x2 t56 h
def bV:N0:=fun _ R _ _ _ h=>
R [(.sc (.int .i64 120))] h
def cy:N3:=fun W R N E P x1 x2 ax h=>
aH ax (
bV W R N E P h) (
cl W R N E P x1 x2 h)
def cz:N4:=fun W R N E P x1 x2 x8 aq h=>
aV x8 (.sc (.bool true)) aq fun t57=>
cy W R N E P x1 x2 t57 h
def cK:N3:=fun W R N E P x1 x2 x8 h=>
bF false x8 (
ai (some 0) x2 fun t58=>
al (some false) (some 1) t58 h fun t59 _=>
ah Pg .gtr 3 true t59 (.sc (.int .i64 3)) fun t61=>
cz W R N E P x1 x2 x8 t61 h) (
cz W R N E P x1 x2 x8 aa h)
def da:N2:=fun W R N E P x1 x2 h=>
ai (some 0) x2 fun t62=>
al (some false) (some 1) t62 h fun t63 _=>
ah Pg .lss 3 true t63 (.sc (.int .i64 1)) fun t65=>
cK W R N E P x1 x2 t65 h
def cT:N2:=fun W R N E P x0 x1 h=>
eI 7 49 x0 h fun t66 La=>
da W R N E P x1 t66 La
theorem aM{x0 x1:AV}{h:AH}{M:WK}{R:RK}(hp:cT (fun id=>M id\/h.next<=id) (aJ Pg [.tmp 4] R) (aJ Pg [.tmp 4] R) (fun _ _ _=>False) (fun v h=>R (.cg v) h) x0 x1 h):aE Pg 56 [x0,x1] h M R:=
 fin (n:=65) (pl:=[(1,⟨[(none,(fr 0 4)),(some (3,false),(fr 4 3)),(none,(fr 7 1))],false,[],[]⟩),(3,⟨[(none,(fr 0 4)),(some (3,true),(fr 4 4)),(some (7,false),(fr 8 3)),(some (3,true),(fr 11 1)),(none,(fr 12 1))],false,[],[]⟩),(5,⟨[(none,(fr 0 3)),(some (2,true),(fr 3 4)),(some (6,false),(fr 7 4)),(some (2,true),(fr 11 2)),(some (12,false),(fr 13 6)),(some (2,true),(fr 19 1)),(none,(fr 20 1))],false,[],[]⟩),(7,⟨[(none,(fr 0 4)),(some (3,true),(fr 4 3)),(none,(fr 7 2)),(some (8,false),(fr 9 4)),(some (12,true),(fr 13 3)),(some (8,false),(fr 16 1)),(none,(fr 17 1))],false,[],[]⟩)]) (rs:=[.tmp 4]) (L:=rs) (fun c=>(a2 cT 0 1 c)) Try.mixed Try.func56 (fun c=>
(sq (a2 cT 0 1 c)
(sn
(sn
(sn
(sn
(sl (a0 n1 c))
(sn
(cd (a1 n3 64 c) (sl (a0 n2 c)) tr)
(gr (gn (a1 aQ 2 c) (gx (a2 n9 2 50 c) (gn (a3 n8 2 50 53 c) (gx (a2 n7 2 55 c) (gx (a3 n6 2 55 59 c) (gx (a3 n5 55 59 62 c) (gl (a2 n4 55 63 c)))))))))))
(sn
(cd (a2 bc 2 46 c) (sl (a0 a_ c)) tr)
(gr (gn (a2 bQ 1 2 c) (gx (a3 bO 1 2 28 c) (gx (a4 bH 1 2 28 32 c) (gx (a4 bz 2 28 32 36 c) (gx (a3 bC 2 28 38 c) (gx (a4 bD 2 28 38 44 c) (gl (a3 bt 2 28 45 c)))))))))))
(sn
(cd (a3 cp 1 2 25 c) (sl (a0 b_ c)) tr)
(gr (gn (a2 cl 1 2 c) (gx (a3 cj 1 2 16 c) (gx (a4 cn 1 2 16 20 c) (gx (a5 cb 1 2 16 20 23 c) (gl (a4 bW 1 2 16 24 c)))))))))
(sn
(cd (a3 cy 1 2 12 c) (sl (a0 bV c)) tr)
(gr (gn (a2 da 1 2 c) (gx (a3 cK 1 2 8 c) (gl (a4 cz 1 2 8 11 c))))))))) hp
attribute [simp] n1 n2 n3 n4 n5 n6 n7 n8 n9 aQ a_ bc bt bD bC bz bH bO bQ b_ cp bW cb cn cj cl bV cy cz cK da cT
end lK
namespace YV
abbrev rs:List Nat:=[2]
def n1:N0:=fun _ R _ _ _ h=>
R [(.sc (.int .i64 0))] h
def n2:N0:=fun _ R _ _ _ h=>
R [(.sc (.int .i64 1))] h
def n3:N1:=fun W R N E P x4 h=>
aH x4 (
n2 W R N E P h) (
n1 W R N E P h)
def n4:N2:=fun W R N E P x3 x4 h=>
aH x4 (
n3 W R N E P x4 h) (
ah Pg .eql 9 true x3 (.sc (.string ⟨#[99,104]⟩)) fun t1=>
n3 W R N E P t1 h)
def n5:N1:=fun W R N E P x3 h=>
ah Pg .eql 9 true x3 (.sc (.string ⟨#[118,100,103]⟩)) fun t2=>
n4 W R N E P x3 t2 h
def n6:N2:=fun W R N E P x3 x4 h=>
aH x4 (
n3 W R N E P x4 h) (
n5 W R N E P x3 h)
def n7:N1:=fun W R N E P x3 h=>
ah Pg .eql 9 true x3 (.sc (.string ⟨#[118]⟩)) fun t3=>
n6 W R N E P x3 t3 h
def n8:N2:=fun W R N E P x3 x4 h=>
aH x4 (
n3 W R N E P x4 h) (
n7 W R N E P x3 h)
def n9:N1:=fun W R N E P x3 h=>
ah Pg .eql 9 true x3 (.sc (.string ⟨#[104]⟩)) fun t4=>
n8 W R N E P x3 t4 h
def aQ:N1:=fun W R N E P x0 h=>
n9 W R N E P x0 h
def a_:N1:=fun W R N E P x0 h=>
aQ W R N E P x0 h
theorem aM{x0:AV}{h:AH}{M:WK}{R:RK}(hp:a_ (fun id=>M id\/h.next<=id) (aJ Pg [.tmp 2] R) (aJ Pg [.tmp 2] R) (fun _ _ _=>False) (fun v h=>R (.cg v) h) x0 h):aE Pg 57 [x0] h M R:=
 fin (n:=9) (pl:=[]) (rs:=[.tmp 2]) (L:=rs) (fun c=>(a1 a_ 0 c)) Try.mixed Try.func57 (fun c=>
(sq (a1 a_ 0 c)
(sn
(sl (a0 n1 c))
(sq (a1 aQ 0 c)
(bk 0 (sn
(cd (a1 n3 4 c) (sl (a0 n2 c)) tr)
(sq (a1 n9 3 c)
(cd (a2 n8 3 4 c) tr (sq (a1 n7 3 c)
(cd (a2 n6 3 4 c) tr (sq (a1 n5 3 c)
(cd (a2 n4 3 4 c) tr tr)))))))))))) hp
attribute [simp] n1 n2 n3 n4 n5 n6 n7 n8 n9 aQ a_
end YV
namespace YM
abbrev rs:List Nat:=[4]
def n1:N1:=fun _ R _ _ _ x4 h=>
R [x4] h
def n2:N2:=fun W R N E P x7 ax h=>
aV x7 ax (.sc (.bool false)) fun t1=>
n1 W R N E P t1 h
def n3:N3:=fun W R N E P x0 x1 x7 h=>
bF true x7 (
qp (some .u64) x1 fun t2=>
ah Pg .shr 47 false x0 t2 fun t3=>
ah Pg .neq 47 true t3 (.sc (.int .u64 0)) fun t4=>
n2 W R N E P x7 t4 h) (
n2 W R N E P x7 aa h)
def n4:N2:=fun W R N E P x0 x1 h=>
ah Pg .lss 3 true x1 (.sc (.int .i64 64)) fun t5=>
n3 W R N E P x0 x1 t5 h
def n5:N2:=fun W R N E P x0 x1 h=>
n4 W R N E P x0 x1 h
theorem aM{x0 x1:AV}{h:AH}{M:WK}{R:RK}(hp:n5 (fun id=>M id\/h.next<=id) (aJ Pg [.tmp 4] R) (aJ Pg [.tmp 4] R) (fun _ _ _=>False) (fun v h=>R (.cg v) h) x0 x1 h):aE Pg 83 [x0,x1] h M R:=
 fin (n:=14) (pl:=[(1,⟨[(none,(fr 0 3)),(some (2,true),(fr 3 5)),(none,(fr 8 2))],false,[],[]⟩)]) (rs:=[.tmp 4]) (L:=rs) (fun c=>(a2 n5 0 1 c)) Try.mixed Try.func83 (fun c=>
(sq (a2 n5 0 1 c)
(sn
(sm (a1 n1 4 c))
(gr (gn (a2 n4 0 1 c) (gx (a3 n3 0 1 7 c) (gl (a2 n2 7 12 c)))))))) hp
attribute [simp] n1 n2 n3 n4 n5
end YM
namespace jx
abbrev rs:List Nat:=[4]
def n1:N0:=fun _ R _ _ _ h=>
R [(.sc (.bool true))] h
def n2:N3:=fun _ _ N _ _ x2 x3 x5 h=>
ah Pg .add 3 true x5 (.sc (.int .i64 1)) fun t1=>
N [x2,x3,t1] h
def n3:N0:=fun _ R _ _ _ h=>
R [(.sc (.bool false))] h
def n4:N4:=fun W R N E P x2 x3 x5 SR h=>
aH SR (
n3 W R N E P h) (
n2 W R N E P x2 x3 x5 h)
def n5:N5:=fun W R N E P x2 x3 x5 v8 D_ h=>
aV v8 (.sc (.bool true)) D_ fun t2=>
n4 W R N E P x2 x3 x5 t2 h
def n6:N6:=fun W R N E P x2 x3 x5 x6 x7 v8 h=>
bF false v8 (
ai (some 6) x6 fun t3=>
al (some false) (some 1) t3 h fun t4 _=>
ai (some 6) x7 fun t6=>
al (some false) (some 1) t6 h fun t7 _=>
ah Pg .neq 47 false t4 t7 fun t9=>
n5 W R N E P x2 x3 x5 v8 t9 h) (
n5 W R N E P x2 x3 x5 v8 aa h)
def n7:N7:=fun W R N E P x2 x3 x5 x6 x7 mO tG h=>
aV mO (.sc (.bool true)) tG fun t10=>
n6 W R N E P x2 x3 x5 x6 x7 t10 h
def n8:N6:=fun W R N E P x2 x3 x5 x6 x7 mO h=>
bF false mO (
ai (some 5) x6 fun t11=>
al (some false) (some 1) t11 h fun t12 _=>
ai (some 5) x7 fun t14=>
al (some false) (some 1) t14 h fun t15 _=>
ah Pg .neq 47 false t12 t15 fun t17=>
n7 W R N E P x2 x3 x5 x6 x7 mO t17 h) (
n7 W R N E P x2 x3 x5 x6 x7 mO aa h)
def n9:N7:=fun W R N E P x2 x3 x5 x6 x7 tH oq h=>
aV tH (.sc (.bool true)) oq fun t18=>
n8 W R N E P x2 x3 x5 x6 x7 t18 h
def aQ:N6:=fun W R N E P x2 x3 x5 x6 x7 tH h=>
bF false tH (
ai (some 4) x6 fun t19=>
al (some false) (some 1) t19 h fun t20 _=>
ai (some 4) x7 fun t22=>
al (some false) (some 1) t22 h fun t23 _=>
ah Pg .neq 4 false t20 t23 fun t25=>
n9 W R N E P x2 x3 x5 x6 x7 tH t25 h) (
n9 W R N E P x2 x3 x5 x6 x7 tH aa h)
def a_:N7:=fun W R N E P x2 x3 x5 x6 x7 vj Ec h=>
aV vj (.sc (.bool true)) Ec fun t26=>
aQ W R N E P x2 x3 x5 x6 x7 t26 h
def bc:N6:=fun W R N E P x2 x3 x5 x6 x7 vj h=>
bF false vj (
ai (some 3) x6 fun t27=>
al (some false) (some 1) t27 h fun t28 _=>
ai (some 3) x7 fun t30=>
al (some false) (some 1) t30 h fun t31 _=>
ah Pg .neq 3 false t28 t31 fun t33=>
a_ W R N E P x2 x3 x5 x6 x7 vj t33 h) (
a_ W R N E P x2 x3 x5 x6 x7 vj aa h)
def bt:N7:=fun W R N E P x2 x3 x5 x6 x7 wc pR h=>
aV wc (.sc (.bool true)) pR fun t34=>
bc W R N E P x2 x3 x5 x6 x7 t34 h
def bD:N6:=fun W R N E P x2 x3 x5 x6 x7 wc h=>
bF false wc (
ai (some 2) x6 fun t35=>
al (some false) (some 1) t35 h fun t36 _=>
ai (some 2) x7 fun t38=>
al (some false) (some 1) t38 h fun t39 _=>
aC Pg W 23 [t36,t39] h (fun t41 Hx=>
im .not t41 fun t43=>
bt W R N E P x2 x3 x5 x6 x7 wc t43 Hx) P) (
bt W R N E P x2 x3 x5 x6 x7 wc aa h)
def bC:N7:=fun W R N E P x2 x3 x5 x6 x7 ot Ed h=>
aV ot (.sc (.bool true)) Ed fun t44=>
bD W R N E P x2 x3 x5 x6 x7 t44 h
def bz:N6:=fun W R N E P x2 x3 x5 x6 x7 ot h=>
bF false ot (
ai (some 1) x6 fun t45=>
al (some false) (some 1) t45 h fun t46 _=>
ai (some 1) x7 fun t48=>
al (some false) (some 1) t48 h fun t49 _=>
ah Pg .neq 9 false t46 t49 fun t51=>
bC W R N E P x2 x3 x5 x6 x7 ot t51 h) (
bC W R N E P x2 x3 x5 x6 x7 ot aa h)
def bH:N5:=fun W R N E P x2 x3 x5 x6 x7 h=>
ai (some 0) x6 fun t52=>
al (some false) (some 1) t52 h fun t53 _=>
ai (some 0) x7 fun t55=>
al (some false) (some 1) t55 h fun t56 _=>
ah Pg .neq 3 false t53 t56 fun t58=>
bz W R N E P x2 x3 x5 x6 x7 t58 h
def bO:N3:=fun W R N E P x2 x3 x5 h=>
∃Hd:Nat->Nat,(∀i∈[6,9],h.obj (Hd i)≠none)/\(
ai (some 2) x2 fun t59=>
al (some false) (some 1) t59 h fun t60 _=>
br (some (7,none)) t60 x5 fun t62=>
al (some true) (some 7) t62 h fun t63 _=>
ai (some 2) x3 fun t65=>
al (some false) (some 1) t65 h fun t66 i67=>
(i67=Hd 6)/\(
br (some (7,none)) t66 x5 fun t68=>
al (some true) (some 7) t68 h fun t69 i70=>
(i70=Hd 9)/\(
(
bw (some [.int .i64 0,.string ⟨#[]⟩,.slice none 0 0,.int .i64 0,.bool false,.int .u64 0,.int .u64 0]) 7 49 h fun t71 FE=>
bw (some [.int .i64 0,.string ⟨#[]⟩,.slice none 0 0,.int .i64 0,.bool false,.int .u64 0,.int .u64 0]) 7 49 FE fun t73 FD=>
aG (some 7) t71 t63 FD (h_ W Hd [6,9]) fun FC=>
aG (some 7) t73 t69 FC W fun K7=>
bH W R N E P x2 x3 x5 t71 t73 K7)/\(
bw (some [.int .i64 0,.string ⟨#[]⟩,.slice none 0 0,.int .i64 0,.bool false,.int .u64 0,.int .u64 0]) 7 49 h fun t77 FB=>
bw (some [.int .i64 0,.string ⟨#[]⟩,.slice none 0 0,.int .i64 0,.bool false,.int .u64 0,.int .u64 0]) 7 49 FB fun t79 w_=>
aG (some 7) t79 t63 w_ (h_ W Hd [6,9]) fun K6=>
aG (some 7) t77 t69 K6 W fun w9=>
bH W R N E P x2 x3 x5 t79 t77 w9)/\True)))
def bQ:N4:=fun W R N E P x2 x3 x5 ib h=>
aH ib (
bO W R N E P x2 x3 x5 h) (
E 0 [] h)
def b_:N3:=fun W R N E P x2 x3 x5 h=>
ai (some 2) x2 fun t83=>
al (some false) (some 1) t83 h fun t84 _=>
(ba t84=false)/\bK t84 fun t86=>
ah Pg .lss 3 false x5 t86 fun t87=>
bQ W R N E P x2 x3 x5 t87 h
def cB:GK:=fun W R N E P N' vs h=>b_ W R N' (fun(i:Nat) (vs:List AV) (h:AH)=>if i=0 then n1 W R N E P h else E i vs h) P (vs.getD 0 aa) (vs.getD 1 aa) (vs.getD 2 aa) h
def cp:N3:=fun W R N E P x2 x3 x5 h=>
cY (cB W R N E P) [x2,x3,x5] h
def bW:N2:=fun W R N E P x2 x3 h=>
cp W R N E P x2 x3 (.sc (.int .i64 0)) h
def cb:N0:=fun _ R _ _ _ h=>
R [(.sc (.bool false))] h
def cn:N3:=fun W R N E P x2 x3 jd h=>
aH jd (
cb W R N E P h) (
bW W R N E P x2 x3 h)
def cj:N4:=fun W R N E P x2 x3 c_ wk h=>
aV c_ (.sc (.bool true)) wk fun t88=>
cn W R N E P x2 x3 t88 h
def cl:N3:=fun W R N E P x2 x3 c_ h=>
bF false c_ (
ai (some 2) x2 fun t89=>
al (some false) (some 1) t89 h fun t90 _=>
(ba t90=false)/\bK t90 fun t92=>
ai (some 2) x3 fun t93=>
al (some false) (some 1) t93 h fun t94 _=>
(ba t94=false)/\bK t94 fun t96=>
ah Pg .neq 3 false t92 t96 fun t97=>
cj W R N E P x2 x3 c_ t97 h) (
cj W R N E P x2 x3 c_ aa h)
def bV:N4:=fun W R N E P x2 x3 bg bI h=>
aV bg (.sc (.bool true)) bI fun t98=>
cl W R N E P x2 x3 t98 h
def cy:N3:=fun W R N E P x2 x3 bg h=>
bF false bg (
ai (some 1) x2 fun t99=>
al (some false) (some 1) t99 h fun t100 _=>
ai (some 1) x3 fun t102=>
al (some false) (some 1) t102 h fun t103 _=>
ah Pg .neq 3 false t100 t103 fun t105=>
bV W R N E P x2 x3 bg t105 h) (
bV W R N E P x2 x3 bg aa h)
def cz:N2:=fun W R N E P x2 x3 h=>
ai (some 0) x2 fun t106=>
al (some false) (some 1) t106 h fun t107 _=>
ai (some 0) x3 fun t109=>
al (some false) (some 1) t109 h fun t110 _=>
ah Pg .neq 3 false t107 t110 fun t112=>
cy W R N E P x2 x3 t112 h
def cK:N2:=fun W R N E P x0 x1 h=>
eI 3 27 x0 h fun t113 FL=>
eI 3 27 x1 FL fun t115 NJ=>
cz W R N E P t113 t115 NJ
theorem aM{x0 x1:AV}{h:AH}{M:WK}{R:RK}(hp:cK (fun id=>M id\/h.next<=id) (aJ Pg [.tmp 4] R) (aJ Pg [.tmp 4] R) (fun _ _ _=>False) (fun v h=>R (.cg v) h) x0 x1 h):aE Pg 11 [x0,x1] h M R:=
 fin (n:=94) (pl:=[(1,⟨[(none,(fr 0 6)),(some (5,false),(fr 6 5)),(none,(fr 11 2)),(some (12,false),(fr 13 7)),(none,(fr 20 1))],false,[],[]⟩),(6,⟨[(none,[(0,false),(1,false),(2,false),(3,false),(4,false),(5,false),(6,true),(7,false),(8,false),(9,true)])],true,[.mk (fr 10 4) [],.mk [(11,false),(10,false),(12,false),(13,false)] []],[]⟩),(7,⟨[(none,(fr 0 6)),(some (5,false),(fr 6 5)),(none,(fr 11 2)),(some (12,false),(fr 13 6)),(none,(fr 19 2)),(some (20,false),(fr 21 5)),(none,(fr 26 2)),(some (27,false),(fr 28 5)),(none,(fr 33 2)),(some (34,false),(fr 35 5)),(none,(fr 40 2)),(some (41,false),(fr 42 5)),(none,(fr 47 1))],false,[],[]⟩)]) (rs:=[.tmp 4]) (L:=rs) (fun c=>(a2 cK 0 1 c)) Try.mixed Try.func11 (fun c=>
(sq (a2 cK 0 1 c)
(sn
(sn
(sl (a0 n1 c))
(sq (a2 bW 2 3 c)
(bk 0 (lp [2,3,5] rs [(0,[])] (a3 cp 2 3 5 c) cB (fun i vs h=>if i=0 then n1 c.W c.R c.N c.E c.P h else c.E i vs h) (.b (.t .o)) fun c=>
(sn
(sn
(sm (a3 n2 2 3 5 c))
(bk 1 (sn
(sn
(cd (a4 n4 2 3 5 93 c) (sl (a0 n3 c)) tr)
(gr (gn (a5 bH 2 3 5 6 7 c) (gx (a6 bz 2 3 5 6 7 51 c) (gn (a7 bC 2 3 5 6 7 51 56 c) (gx (a6 bD 2 3 5 6 7 58 c) (gn (a7 bt 2 3 5 6 7 58 64 c) (gx (a6 bc 2 3 5 6 7 66 c) (gn (a7 a_ 2 3 5 6 7 66 71 c) (gx (a6 aQ 2 3 5 6 7 73 c) (gn (a7 n9 2 3 5 6 7 73 78 c) (gx (a6 n8 2 3 5 6 7 80 c) (gn (a7 n7 2 3 5 6 7 80 85 c) (gx (a6 n6 2 3 5 6 7 87 c) (gl (a5 n5 2 3 5 87 92 c))))))))))))))))
(sm (a3 bO 2 3 5 c)))))
(sq (a3 b_ 2 3 5 c)
(cd (a4 bQ 2 3 5 33 c) tr tr)))))))
(sn
(cd (a3 cn 2 3 28 c) (sl (a0 cb c)) tr)
(gr (gn (a2 cz 2 3 c) (gx (a3 cy 2 3 13 c) (gn (a4 bV 2 3 13 18 c) (gx (a3 cl 2 3 20 c) (gl (a4 cj 2 3 20 27 c))))))))))) hp
attribute [simp] n1 n2 n3 n4 n5 n6 n7 n8 n9 aQ a_ bc bt bD bC bz bH bO bQ b_ bW cb cn cj cl bV cy cz cK
end jx
namespace sj
abbrev rs:List Nat:=[4]
def n1:N0:=fun _ R _ _ _ h=>
R [(.sc (.bool true))] h
def n2:N3:=fun _ _ N _ _ x0 x1 x5 h=>
ah Pg .add 3 true x5 (.sc (.int .i64 1)) fun t1=>
N [x0,x1,t1] h
def n3:N0:=fun _ R _ _ _ h=>
R [(.sc (.bool false))] h
def n4:N4:=fun W R N E P x0 x1 x5 lf h=>
aH lf (
n3 W R N E P h) (
n2 W R N E P x0 x1 x5 h)
def n5:N3:=fun W R N E P x0 x1 x5 h=>
br (some (1,none)) x0 x5 fun t2=>
al (some false) (some 1) t2 h fun t3 _=>
br (some (1,none)) x1 x5 fun t5=>
al (some false) (some 1) t5 h fun t6 _=>
ah Pg .neq 3 false t3 t6 fun t8=>
n4 W R N E P x0 x1 x5 t8 h
def n6:N4:=fun W R N E P x0 x1 x5 aY h=>
aH aY (
n5 W R N E P x0 x1 x5 h) (
E 0 [] h)
def n7:N3:=fun W R N E P x0 x1 x5 h=>
(ba x0=false)/\bK x0 fun t9=>
ah Pg .lss 3 false x5 t9 fun t10=>
n6 W R N E P x0 x1 x5 t10 h
def cB:GK:=fun W R N E P N' vs h=>n7 W R N' (fun(i:Nat) (vs:List AV) (h:AH)=>if i=0 then n1 W R N E P h else E i vs h) P (vs.getD 0 aa) (vs.getD 1 aa) (vs.getD 2 aa) h
def n8:N3:=fun W R N E P x0 x1 x5 h=>
cY (cB W R N E P) [x0,x1,x5] h
def n9:N2:=fun W R N E P x0 x1 h=>
n8 W R N E P x0 x1 (.sc (.int .i64 0)) h
def aQ:N0:=fun _ R _ _ _ h=>
R [(.sc (.bool false))] h
def a_:N3:=fun W R N E P x0 x1 ap h=>
aH ap (
aQ W R N E P h) (
n9 W R N E P x0 x1 h)
def bc:N2:=fun W R N E P x0 x1 h=>
(ba x0=false)/\bK x0 fun t11=>
(ba x1=false)/\bK x1 fun t12=>
ah Pg .neq 3 false t11 t12 fun t13=>
a_ W R N E P x0 x1 t13 h
def bt:N2:=fun W R N E P x0 x1 h=>
bc W R N E P x0 x1 h
theorem aM{x0 x1:AV}{h:AH}{M:WK}{R:RK}(hp:bt (fun id=>M id\/h.next<=id) (aJ Pg [.tmp 4] R) (aJ Pg [.tmp 4] R) (fun _ _ _=>False) (fun v h=>R (.cg v) h) x0 x1 h):aE Pg 23 [x0,x1] h M R:=
 fin (n:=26) (pl:=[(6,⟨[(none,(fr 0 9))],false,[],[]⟩)]) (rs:=[.tmp 4]) (L:=rs) (fun c=>(a2 bt 0 1 c)) Try.mixed Try.func23 (fun c=>
(sq (a2 bt 0 1 c)
(sn
(sn
(sl (a0 n1 c))
(sq (a2 n9 0 1 c)
(bk 0 (lp [0,1,5] rs [(0,[])] (a3 n8 0 1 5 c) cB (fun i vs h=>if i=0 then n1 c.W c.R c.N c.E c.P h else c.E i vs h) (.b (.t .o)) fun c=>
(sn
(sn
(sm (a3 n2 0 1 5 c))
(bk 1 (sq (a3 n5 0 1 5 c)
(cd (a4 n4 0 1 5 25 c) (sl (a0 n3 c)) tr))))
(sq (a3 n7 0 1 5 c)
(cd (a4 n6 0 1 5 14 c) tr tr)))))))
(sq (a2 bc 0 1 c)
(cd (a3 a_ 0 1 10 c) (sl (a0 aQ c)) tr))))) hp
attribute [simp] n1 n2 n3 n4 n5 n6 n7 n9 aQ a_ bc bt
end sj
end Go.Proofs.Ytjehibknlmehmaa
