/- Bodies of package flat; printed. No condition. -/
import Derived.Test.YtjehibknlmehmaaGl
set_option maxRecDepth 100000
namespace Go.Proofs.Ytjehibknlmehmaa
section
open Go.Ab
namespace ld
abbrev rs:List Nat:=[2,3,4]
def n1:N2:=fun W R _ _ _ x2 x5 h=>
aP x5 fun t1=>
ai (some 5) t1 fun t2=>
al (some true) (some 3) t2 h fun t3 _=>
aG (some 3) x2 t3 h W fun h5=>
R [x2,(.sc (.int .i64 0)),(.sc (.int .i64 0))] h5
def n2:N2:=fun W R _ _ _ x2 x8 h=>
cR (some ([.int .i64 0,.int .i64 0,.slice none 0 0],.inl [(0,1),(1,1),(2,1)])) [] fun t6=>
aG (some 3) x2 t6 h W fun h7=>
R [x2,(.sc (.int .i64 0)),x8] h7
def n3:N3:=fun _ R _ _ _ x2 x3 x4 h=>
R [x2,x3,x4] h
def n4:N4:=fun W R N E P x2 x5 x7 x8 h=>
∃Hd:Nat->Nat,(∀i∈[4,7],h.obj (Hd i)≠none)/\(
cR (some ([.int .i64 0,.int .i64 0,.slice none 0 0],.inl [(0,1),(1,1),(2,1)])) [] fun t8=>
aP x5 fun t9=>
ai (some 4) t9 fun t10=>
al (some false) (some 1) t10 h fun t11 i12=>
(i12=Hd 4)/\(
br (some (1,none)) t11 x7 fun t13=>
al (some false) (some 1) t13 h fun t14 i15=>
(i15=Hd 7)/\(
aG (some 3) x2 t8 h (h_ W Hd [4,7]) fun sX=>
n3 W R N E P x2 t14 x8 sX)))
def n5:N5:=fun W R N E P x2 x5 x7 x8 jZ h=>
aH jZ (
n4 W R N E P x2 x5 x7 x8 h) (
n2 W R N E P x2 x8 h)
def n6:N4:=fun W R N E P x2 x5 x7 x8 h=>
aP x5 fun t17=>
ai (some 4) t17 fun t18=>
al (some false) (some 1) t18 h fun t19 _=>
(ba t19=false)/\bK t19 fun t21=>
ah Pg .lss 3 false x7 t21 fun t22=>
n5 W R N E P x2 x5 x7 x8 t22 h
def n7:N5:=fun W R N E P x2 x5 x7 x8 mP h=>
aH mP (
n6 W R N E P x2 x5 x7 x8 h) (
n1 W R N E P x2 x5 h)
def n8:N4:=fun W R N E P x2 x5 x7 x8 h=>
ah Pg .neq 30 true x8 (.sc (.int .i64 0)) fun t23=>
n7 W R N E P x2 x5 x7 x8 t23 h
def n9:N2:=fun W R N E P x2 x5 h=>
aP x5 fun t24=>
ai (some 5) t24 fun t25=>
al (some true) (some 3) t25 h fun t26 _=>
aC Pg W 13 [t26] h (fun t28 HA=>
dm t28 0 fun t30=>
dm t28 1 fun t31=>
n8 W R N E P x2 x5 t30 t31 HA) P
def aQ:N3:=fun _ R _ _ _ x2 x3 x4 h=>
R [x2,x3,x4] h
def a_:N2:=fun W R N E P x2 x5 h=>
∃Hd:Nat->Nat,(∀i∈[4],h.obj (Hd i)≠none)/\(
cR (some ([.int .i64 0,.int .i64 0,.slice none 0 0],.inl [(0,1),(1,1),(2,1)])) [] fun t32=>
aP x5 fun t33=>
ai (some 8) t33 fun t34=>
al (some false) (some 1) t34 h fun t35 i36=>
(i36=Hd 4)/\(
aG (some 3) x2 t32 h (h_ W Hd [4]) fun sU=>
aQ W R N E P x2 t35 (.sc (.int .i64 115)) sU))
def bc:N3:=fun W R N E P x2 x5 jd h=>
aH jd (
a_ W R N E P x2 x5 h) (
n9 W R N E P x2 x5 h)
def bt:N3:=fun W R N E P x0 x2 x5 h=>
(ba x0=false)/\bK x0 fun t38=>
cR (some ([.bool false,.int .u64 0,.int .u64 0],.inl [(0,1),(1,1),(2,1)])) [] fun t39=>
aC Pg W 22 [x5,(.sc (.int .i64 0)),t38,t39] h (fun t40 yX=>
im .not t40 fun t42=>
bc W R N E P x2 x5 t42 yX) P
def bD:N3:=fun _ R _ _ _ x2 x3 x4 h=>
R [x2,x3,x4] h
def bC:N3:=fun W R N E P x2 x5 x6 h=>
∃Hd:Nat->Nat,(∀i∈[4],h.obj (Hd i)≠none)/\(
cR (some ([.int .i64 0,.int .i64 0,.slice none 0 0],.inl [(0,1),(1,1),(2,1)])) [] fun t43=>
aP x5 fun t44=>
ai (some 8) t44 fun t45=>
al (some false) (some 1) t45 h fun t46 i47=>
(i47=Hd 4)/\(
aG (some 3) x2 t43 h (h_ W Hd [4]) fun qG=>
bD W R N E P x2 t46 x6 qG))
def bz:N5:=fun W R N E P x0 x2 x5 x6 cW h=>
aH cW (
bC W R N E P x2 x5 x6 h) (
bt W R N E P x0 x2 x5 h)
def bH:N4:=fun W R N E P x0 x2 x5 x6 h=>
ah Pg .neq 30 true x6 (.sc (.int .i64 0)) fun t49=>
bz W R N E P x0 x2 x5 x6 t49 h
def bO:N3:=fun W R N E P x0 x2 x5 h=>
(ba x0=false)/\bK x0 fun t50=>
aC Pg W 21 [x5,(.sc (.int .i64 0)),t50,(.sc (.int .i64 0)),(.sc (.pointer none))] h (fun t51 pe=>
bH W R N E P x0 x2 x5 t51 pe) P
def bQ:N2:=fun W R N E P x0 x2 h=>
aC Pg W 20 [x0] h (fun t53 Hw=>
bO W R N E P x0 x2 t53 Hw) P
def b_:N1:=fun W R N E P x0 h=>
bw (some [.int .i64 0,.int .i64 0,.slice none 0 0]) 3 27 h fun t55 Lc=>
bQ W R N E P x0 t55 Lc
theorem aM{x0:AV}{h:AH}{M:WK}{R:RK}(hp:b_ (fun id=>M id\/h.next<=id) (aJ Pg [.cell 2 27,.tmp 3,.tmp 4] R) (aJ Pg [.cell 2 27,.tmp 3,.tmp 4] R) (fun _ _ _=>False) (fun v h=>R (.cg v) h) x0 h):aE Pg 10 [x0] h M R:=
 fin (n:=66) (pl:=[(4,⟨[(none,[(0,false),(1,false),(2,false),(3,false),(4,true),(5,false),(6,false),(7,false),(8,false)])],true,[],[]⟩),(6,⟨[(none,[(0,false),(1,false),(2,false),(3,false),(4,true),(5,false),(6,false),(7,false)])],true,[],[]⟩),(10,⟨[(none,[(0,false),(1,false),(2,false),(3,false),(4,true),(5,false),(6,false),(7,true),(8,false),(9,false),(10,false),(11,false)])],true,[],[]⟩)]) (rs:=[.cell 2 27,.tmp 3,.tmp 4]) (L:=rs) (fun c=>(a1 b_ 0 c)) Try.mixed Try.func10 (fun c=>
(sq (a1 b_ 0 c)
(sq (a2 bQ 0 2 c)
(sn
(sn
(sn
(sl (a2 n1 2 5 c))
(sq (a2 n9 2 5 c)
(sq (a4 n8 2 5 7 8 c)
(cd (a5 n7 2 5 7 8 43 c) (sn
(sl (a2 n2 2 8 c))
(sq (a4 n6 2 5 7 8 c)
(cd (a5 n5 2 5 7 8 50 c) (sn
(sm (a3 n3 2 3 4 c))
(sm (a4 n4 2 5 7 8 c))) tr))) tr))))
(sq (a3 bt 0 2 5 c)
(cd (a3 bc 2 5 28 c) (sn
(sm (a3 aQ 2 3 4 c))
(sm (a2 a_ 2 5 c))) tr)))
(sq (a3 bO 0 2 5 c)
(sq (a4 bH 0 2 5 6 c)
(cd (a5 bz 0 2 5 6 16 c) (sn
(sm (a3 bD 2 3 4 c))
(sm (a3 bC 2 5 6 c))) tr))))))) hp
attribute [simp] n1 n2 n3 n4 n5 n6 n7 n8 n9 aQ a_ bc bt bD bC bz bH bO bQ b_
end ld
namespace QZ
abbrev rs:List Nat:=[2]
def n1:N1:=fun _ R _ _ _ x0 h=>
qw 63 h fun t1 h2=>
qw 63 h2 fun t3 h4=>
qw 64 h4 fun t5 h6=>
cR (some ([.slice none 0 0,.map none,.map none,.map none,.slice none 0 0,.int .i64 0,.int .i64 0,.slice none 0 0,.int .i64 0],.inl [(0,1),(1,1),(2,1),(3,1),(4,1),(5,3),(8,1)])) [(0,x0),(1,t1),(2,t3),(3,t5)] fun t7=>
eI 9 66 t7 h6 fun t8 h9=>
R [t8] h9
def n2:N1:=fun W R N E P x0 h=>
n1 W R N E P x0 h
theorem aM{x0:AV}{h:AH}{M:WK}{R:RK}(hp:n2 (fun id=>M id\/h.next<=id) (aJ Pg [.tmp 2] R) (aJ Pg [.tmp 2] R) (fun _ _ _=>False) (fun v h=>R (.cg v) h) x0 h):aE Pg 20 [x0] h M R:=
 fin (n:=9) (pl:=[]) (rs:=[.tmp 2]) (L:=rs) (fun c=>(a1 n2 0 c)) Try.mixed Try.func20 (fun c=>
(sq (a1 n2 0 c)
(sl (a1 n1 0 c)))) hp
attribute [simp] n1 n2
end QZ
namespace dI
abbrev rs:List Nat:=[10]
def n1:N0:=fun _ R _ _ _ h=>
R [(.sc (.int .i64 0))] h
def n2:N0:=fun _ R _ _ _ h=>
R [(.sc (.int .i64 100))] h
def n3:N0:=fun _ R _ _ _ h=>
R [(.sc (.int .i64 102))] h
def n4:N0:=fun _ R _ _ _ h=>
R [(.sc (.int .i64 100))] h
def n5:N0:=fun _ R _ _ _ h=>
R [(.sc (.int .i64 100))] h
def n6:N1:=fun W R N E P wb h=>
aH wb (
n5 W R N E P h) (
n1 W R N E P h)
def n7:N2:=fun W R N E P gv v_ h=>
aV gv v_ (.sc (.bool false)) fun t1=>
n6 W R N E P t1 h
def n8:N2:=fun W R N E P x6 gv h=>
bF true gv (
ai (some 0) x6 fun t2=>
al (some false) (some 1) t2 h fun t3 _=>
ah Pg .neq 9 true t3 (.sc (.string ⟨#[114,101,112,101,97,116]⟩)) fun t5=>
n7 W R N E P gv t5 h) (
n7 W R N E P gv aa h)
def n9:N3:=fun W R N E P x6 wa SZ h=>
aV wa SZ (.sc (.bool false)) fun t6=>
n8 W R N E P x6 t6 h
def aQ:N2:=fun W R N E P x6 wa h=>
bF true wa (
ai (some 0) x6 fun t7=>
al (some false) (some 1) t7 h fun t8 _=>
ah Pg .neq 9 true t8 (.sc (.string ⟨#[117,115,101]⟩)) fun t10=>
n9 W R N E P x6 wa t10 h) (
n9 W R N E P x6 wa aa h)
def a_:N2:=fun W R N E P x4 x6 h=>
ah Pg .neq 87 true x4 (.sc (.pointer none)) fun t11=>
aQ W R N E P x6 t11 h
def bc:N3:=fun W R N E P x4 x6 ke h=>
aH ke (
n4 W R N E P h) (
a_ W R N E P x4 x6 h)
def bt:N4:=fun W R N E P x4 x6 gE we h=>
aV gE we (.sc (.bool false)) fun t12=>
bc W R N E P x4 x6 t12 h
def bD:N5:=fun W R N E P x4 x6 gE Av Ed h=>
bF true gE (
aV Av (.sc (.bool true)) Ed fun t13=>
bt W R N E P x4 x6 gE t13 h) (
bt W R N E P x4 x6 gE aa h)
def bC:N4:=fun W R N E P x4 x6 gE Av h=>
bF false Av (
ai (some 0) x6 fun t14=>
al (some false) (some 1) t14 h fun t15 _=>
ah Pg .eql 9 true t15 (.sc (.string ⟨#[103,97,116,101]⟩)) fun t17=>
bD W R N E P x4 x6 gE Av t17 h) (
bD W R N E P x4 x6 gE Av aa h)
def bz:N5:=fun W R N E P x4 x6 gE fJ ot h=>
bF true gE (
aV fJ (.sc (.bool true)) ot fun t18=>
bC W R N E P x4 x6 gE t18 h) (
bC W R N E P x4 x6 gE aa h)
def bH:N4:=fun W R N E P x4 x6 gE fJ h=>
bF false fJ (
ai (some 0) x6 fun t19=>
al (some false) (some 1) t19 h fun t20 _=>
ah Pg .eql 9 true t20 (.sc (.string ⟨#[98,105,116,115]⟩)) fun t22=>
bz W R N E P x4 x6 gE fJ t22 h) (
bz W R N E P x4 x6 gE fJ aa h)
def bO:N3:=fun W R N E P x4 x6 gE h=>
bF true gE (
ai (some 0) x6 fun t23=>
al (some false) (some 1) t23 h fun t24 _=>
ah Pg .eql 9 true t24 (.sc (.string ⟨#[113,117,98,105,116,115]⟩)) fun t26=>
bH W R N E P x4 x6 gE t26 h) (
bH W R N E P x4 x6 gE aa h)
def bQ:N3:=fun W R N E P x3 x4 x6 h=>
ah Pg .gtr 3 true x3 (.sc (.int .i64 0)) fun t27=>
bO W R N E P x4 x6 t27 h
def b_:N4:=fun W R N E P x3 x4 x6 wj h=>
aH wj (
n3 W R N E P h) (
bQ W R N E P x3 x4 x6 h)
def cp:N3:=fun W R N E P x3 x4 x6 h=>
ah Pg .gtr 3 true x3 (.sc (.int .i64 32)) fun t28=>
b_ W R N E P x3 x4 x6 t28 h
def bW:N4:=fun W R N E P x3 x4 x6 aq h=>
aH aq (
n2 W R N E P h) (
cp W R N E P x3 x4 x6 h)
def cb:N5:=fun W R N E P x3 x4 x6 fS kA h=>
aV fS (.sc (.bool true)) kA fun t29=>
bW W R N E P x3 x4 x6 t29 h
def cn:N5:=fun W R N E P x2 x3 x4 x6 fS h=>
bF false fS (
ai (some 4) x6 fun t30=>
al (some false) (some 1) t30 h fun t31 _=>
ah Pg .gtr 3 false t31 x2 fun t33=>
cb W R N E P x3 x4 x6 fS t33 h) (
cb W R N E P x3 x4 x6 fS aa h)
def cj:N6:=fun W R N E P x2 x3 x4 x6 wk tJ h=>
aV wk (.sc (.bool true)) tJ fun t34=>
cn W R N E P x2 x3 x4 x6 t34 h
def cl:N5:=fun W R N E P x2 x3 x4 x6 wk h=>
bF false wk (
ai (some 4) x6 fun t35=>
al (some false) (some 1) t35 h fun t36 _=>
ah Pg .lss 3 true t36 (.sc (.int .i64 0)) fun t38=>
cj W R N E P x2 x3 x4 x6 wk t38 h) (
cj W R N E P x2 x3 x4 x6 wk aa h)
def bV:N6:=fun W R N E P x2 x3 x4 x6 cW lf h=>
aV cW (.sc (.bool true)) lf fun t39=>
cl W R N E P x2 x3 x4 x6 t39 h
def cy:N7:=fun W R N E P x2 x3 x4 x6 cW dK je h=>
bF false cW (
aV dK je (.sc (.bool false)) fun t40=>
bV W R N E P x2 x3 x4 x6 cW t40 h) (
bV W R N E P x2 x3 x4 x6 cW aa h)
def cz:N6:=fun W R N E P x2 x3 x4 x6 cW dK h=>
bF true dK (
ai (some 4) x6 fun t41=>
al (some false) (some 1) t41 h fun t42 _=>
ah Pg .neq 3 true t42 (.sc (.int .i64 0)) fun t44=>
cy W R N E P x2 x3 x4 x6 cW dK t44 h) (
cy W R N E P x2 x3 x4 x6 cW dK aa h)
def cK:N5:=fun W R N E P x2 x3 x4 x6 cW h=>
bF false cW (
ai (some 0) x6 fun t45=>
al (some false) (some 1) t45 h fun t46 _=>
aC Pg W 59 [t46] h (fun t48 yU=>
im .not t48 fun t50=>
cz W R N E P x2 x3 x4 x6 cW t50 yU) P) (
cz W R N E P x2 x3 x4 x6 cW aa h)
def da:N4:=fun W R N E P x2 x3 x4 x6 h=>
ai (some 0) x6 fun t51=>
al (some false) (some 1) t51 h fun t52 _=>
aC Pg W 58 [t52] h (fun t54 ua=>
im .not t54 fun t56=>
cK W R N E P x2 x3 x4 x6 t56 ua) P
def cT:N4:=fun W R N E P x1 x2 x3 x4 h=>
eI 6 42 x1 h fun t57 BC=>
da W R N E P x2 x3 x4 t57 BC
theorem aM{x0 x1 x2 x3 x4:AV}{h:AH}{M:WK}{R:RK}(hp:cT (fun id=>M id\/h.next<=id) (aJ Pg [.tmp 10] R) (aJ Pg [.tmp 10] R) (fun _ _ _=>False) (fun v h=>R (.cg v) h) x1 x2 x3 x4 h):aE Pg 38 [x0,x1,x2,x3,x4] h M R:=
 fin (n:=72) (pl:=[(1,⟨[(none,(fr 0 5)),(some (4,false),(fr 5 5)),(some (9,true),(fr 10 3)),(some (4,false),(fr 13 1)),(none,(fr 14 2)),(some (15,false),(fr 16 3)),(none,(fr 19 2)),(some (20,false),(fr 21 4)),(none,(fr 25 2))],false,[],[]⟩),(5,⟨[(none,(fr 0 3)),(some (2,true),(fr 3 4)),(some (6,false),(fr 7 3)),(some (2,true),(fr 10 2)),(some (11,false),(fr 12 3)),(some (2,true),(fr 15 1)),(none,(fr 16 2))],false,[],[]⟩),(7,⟨[(none,(fr 0 3)),(some (2,true),(fr 3 3)),(none,(fr 6 2)),(some (7,true),(fr 8 3)),(none,(fr 11 2))],false,[],[]⟩)]) (rs:=[.tmp 10]) (L:=rs) (fun c=>(a4 cT 1 2 3 4 c)) Try.mixed Try.func38 (fun c=>
(sq (a4 cT 1 2 3 4 c)
(sn
(sl (a0 n1 c))
(bk 0 (sn
(cd (a4 bW 3 4 6 11 c) (sl (a0 n2 c)) (sq (a3 cp 3 4 6 c)
(cd (a4 b_ 3 4 6 38 c) (sl (a0 n3 c)) (sn
(cd (a3 bc 4 6 41 c) (sl (a0 n4 c)) (sn
(cd (a1 n6 59 c) (sl (a0 n5 c)) tr)
(gr (gn (a2 a_ 4 6 c) (gx (a2 aQ 6 62 c) (gn (a3 n9 6 62 65 c) (gx (a2 n8 6 67 c) (gl (a2 n7 67 70 c)))))))))
(gr (gn (a3 bQ 3 4 6 c) (gx (a3 bO 4 6 44 c) (gx (a4 bH 4 6 44 48 c) (gx (a5 bz 4 6 44 48 51 c) (gx (a4 bC 4 6 44 53 c) (gx (a5 bD 4 6 44 53 56 c) (gl (a4 bt 4 6 44 57 c)))))))))))))
(gr (gn (a4 da 2 3 4 6 c) (gx (a5 cK 2 3 4 6 16 c) (gx (a6 cz 2 3 4 6 16 21 c) (gx (a7 cy 2 3 4 6 16 21 24 c) (gn (a6 bV 2 3 4 6 16 25 c) (gx (a5 cl 2 3 4 6 27 c) (gn (a6 cj 2 3 4 6 27 30 c) (gx (a5 cn 2 3 4 6 32 c) (gl (a5 cb 3 4 6 32 36 c)))))))))))))))) hp
attribute [simp] n1 n2 n3 n4 n5 n6 n7 n8 n9 aQ a_ bc bt bD bC bz bH bO bQ b_ cp bW cb cn cj cl bV cy cz cK da cT
end dI
namespace QV
abbrev rs:List Nat:=[2]
def n1:N1:=fun W R _ _ P x0 h=>
aC Pg W 59 [x0] h (fun t1 h2=>
R [t1] h2) P
def n2:N0:=fun _ R _ _ _ h=>
R [(.sc (.bool true))] h
def n3:N2:=fun W R N E P x0 x4 h=>
aH x4 (
n2 W R N E P h) (
n1 W R N E P x0 h)
def n4:N3:=fun W R N E P x0 x3 x4 h=>
aH x4 (
n3 W R N E P x0 x4 h) (
ah Pg .eql 9 true x3 (.sc (.string ⟨#[114,101,115,101,116]⟩)) fun t3=>
n3 W R N E P x0 t3 h)
def n5:N2:=fun W R N E P x0 x3 h=>
ah Pg .eql 9 true x3 (.sc (.string ⟨#[109,101,97,115,117,114,101]⟩)) fun t4=>
n4 W R N E P x0 x3 t4 h
def n6:N3:=fun W R N E P x0 x3 x4 h=>
aH x4 (
n3 W R N E P x0 x4 h) (
n5 W R N E P x0 x3 h)
def n7:N2:=fun W R N E P x0 x3 h=>
ah Pg .eql 9 true x3 (.sc (.string ⟨#[117,115,101]⟩)) fun t5=>
n6 W R N E P x0 x3 t5 h
def n8:N3:=fun W R N E P x0 x3 x4 h=>
aH x4 (
n3 W R N E P x0 x4 h) (
n7 W R N E P x0 x3 h)
def n9:N2:=fun W R N E P x0 x3 h=>
ah Pg .eql 9 true x3 (.sc (.string ⟨#[98,105,116,115]⟩)) fun t6=>
n8 W R N E P x0 x3 t6 h
def aQ:N3:=fun W R N E P x0 x3 x4 h=>
aH x4 (
n3 W R N E P x0 x4 h) (
n9 W R N E P x0 x3 h)
def a_:N2:=fun W R N E P x0 x3 h=>
ah Pg .eql 9 true x3 (.sc (.string ⟨#[113,117,98,105,116,115]⟩)) fun t7=>
aQ W R N E P x0 x3 t7 h
def bc:N1:=fun W R N E P x0 h=>
a_ W R N E P x0 x0 h
def bt:N1:=fun W R N E P x0 h=>
bc W R N E P x0 h
theorem aM{x0:AV}{h:AH}{M:WK}{R:RK}(hp:bt (fun id=>M id\/h.next<=id) (aJ Pg [.tmp 2] R) (aJ Pg [.tmp 2] R) (fun _ _ _=>False) (fun v h=>R (.cg v) h) x0 h):aE Pg 58 [x0] h M R:=
 fin (n:=12) (pl:=[]) (rs:=[.tmp 2]) (L:=rs) (fun c=>(a1 bt 0 c)) Try.mixed Try.func58 (fun c=>
(sq (a1 bt 0 c)
(sn
(sl (a1 n1 0 c))
(sq (a1 bc 0 c)
(bk 0 (sn
(cd (a2 n3 0 4 c) (sl (a0 n2 c)) tr)
(sq (a2 a_ 0 3 c)
(cd (a3 aQ 0 3 4 c) tr (sq (a2 n9 0 3 c)
(cd (a3 n8 0 3 4 c) tr (sq (a2 n7 0 3 c)
(cd (a3 n6 0 3 4 c) tr (sq (a2 n5 0 3 c)
(cd (a3 n4 0 3 4 c) tr tr)))))))))))))) hp
attribute [simp] n1 n2 n3 n4 n5 n6 n7 n8 n9 aQ a_ bc bt
end QV
namespace YU
abbrev rs:List Nat:=[2]
def n1:N1:=fun _ R _ _ _ x2 h=>
R [x2] h
def n2:N2:=fun W R N E P x9 aq h=>
aV x9 (.sc (.bool true)) aq fun t1=>
n1 W R N E P t1 h
def n3:N2:=fun W R N E P x0 x9 h=>
bF false x9 (
ah Pg .eql 9 true x0 (.sc (.string ⟨#[105,102]⟩)) fun t2=>
n2 W R N E P x9 t2 h) (
n2 W R N E P x9 aa h)
def n4:N3:=fun W R N E P x0 x5 x7 h=>
aV x5 (.sc (.bool true)) x7 fun t3=>
n3 W R N E P x0 t3 h
def n5:N2:=fun W R N E P x0 x5 h=>
bF false x5 (
ah Pg .eql 9 true x0 (.sc (.string ⟨#[114,101,112,101,97,116]⟩)) fun t4=>
n4 W R N E P x0 x5 t4 h) (
n4 W R N E P x0 x5 aa h)
def n6:N1:=fun W R N E P x0 h=>
ah Pg .eql 9 true x0 (.sc (.string ⟨#[103,97,116,101]⟩)) fun t5=>
n5 W R N E P x0 t5 h
def n7:N1:=fun W R N E P x0 h=>
n6 W R N E P x0 h
theorem aM{x0:AV}{h:AH}{M:WK}{R:RK}(hp:n7 (fun id=>M id\/h.next<=id) (aJ Pg [.tmp 2] R) (aJ Pg [.tmp 2] R) (fun _ _ _=>False) (fun v h=>R (.cg v) h) x0 h):aE Pg 59 [x0] h M R:=
 fin (n:=13) (pl:=[(1,⟨[(none,(fr 0 3)),(some (2,false),(fr 3 2)),(none,(fr 5 2)),(some (6,false),(fr 7 2)),(none,(fr 9 2))],false,[],[]⟩)]) (rs:=[.tmp 2]) (L:=rs) (fun c=>(a1 n7 0 c)) Try.mixed Try.func59 (fun c=>
(sq (a1 n7 0 c)
(sn
(sm (a1 n1 2 c))
(gr (gn (a1 n6 0 c) (gx (a2 n5 0 5 c) (gn (a3 n4 0 5 7 c) (gx (a2 n3 0 9 c) (gl (a2 n2 9 11 c)))))))))) hp
attribute [simp] n1 n2 n3 n4 n5 n6 n7
end YU
namespace jm
abbrev rs:List Nat:=[10]
def n1:N0:=fun _ R _ _ _ h=>
R [(.sc (.int .i64 0))] h
def n2:N2:=fun W R N E P x3 x6 h=>
aP x3 fun t1=>
al (some false) (some 1) t1 h fun t2 _=>
ai (some 3) x6 fun t4=>
al (some false) (some 1) t4 h fun t5 _=>
ah Pg .add 3 false t2 t5 fun t7=>
aP x3 fun t8=>
aG (some 1) t8 t7 h W fun h9=>
n1 W R N E P h9
def n3:N3:=fun W R N E P x2 x3 x6 h=>
ai (some 1) x6 fun t10=>
al (some false) (some 1) t10 h fun t11 _=>
aP x3 fun t13=>
al (some false) (some 1) t13 h fun t14 _=>
ai (some 3) x6 fun t16=>
al (some false) (some 1) t16 h fun t17 _=>
cR (some ([.int .i64 0,.int .i64 0],.inl [(0,1),(1,1)])) [(0,t14),(1,t17)] fun t19=>
eH Pg (some (9,93)) x2 t11 t19 h W fun sW=>
n2 W R N E P x3 x6 sW
def n4:N0:=fun _ R _ _ _ h=>
R [(.sc (.int .i64 110))] h
def n5:N0:=fun _ R _ _ _ h=>
R [(.sc (.int .i64 112))] h
def n6:N0:=fun _ R _ _ _ h=>
R [(.sc (.int .i64 1))] h
def n7:N4:=fun W R N E P x2 x3 x6 c_ h=>
aH c_ (
n6 W R N E P h) (
n3 W R N E P x2 x3 x6 h)
def n8:N4:=fun W R N E P x2 x3 x4 x6 h=>
ai (some 3) x6 fun t21=>
al (some false) (some 1) t21 h fun t22 _=>
aP x3 fun t24=>
al (some false) (some 1) t24 h fun t25 _=>
ah Pg .sub 3 false x4 t25 fun t27=>
ah Pg .gtr 3 false t22 t27 fun t28=>
n7 W R N E P x2 x3 x6 t28 h
def n9:N5:=fun W R N E P x2 x3 x4 x6 cW h=>
aH cW (
n5 W R N E P h) (
n8 W R N E P x2 x3 x4 x6 h)
def aQ:N4:=fun W R N E P x2 x3 x4 x6 h=>
ai (some 3) x6 fun t29=>
al (some false) (some 1) t29 h fun t30 _=>
ah Pg .lss 3 true t30 (.sc (.int .i64 1)) fun t32=>
n9 W R N E P x2 x3 x4 x6 t32 h
def a_:N5:=fun W R N E P x2 x3 x4 x6 aq h=>
aH aq (
n4 W R N E P h) (
aQ W R N E P x2 x3 x4 x6 h)
def bc:N5:=fun W R N E P x0 x2 x3 x4 x6 h=>
ai (some 1) x6 fun t33=>
al (some false) (some 1) t33 h fun t34 _=>
aC Pg W 84 [x0,t34] h (fun t36 sU=>
a_ W R N E P x2 x3 x4 x6 t36 sU) P
def bt:N5:=fun W R N E P x0 x1 x2 x3 x4 h=>
eI 6 42 x1 h fun t38 vL=>
bc W R N E P x0 x2 x3 x4 t38 vL
theorem aM{x0 x1 x2 x3 x4:AV}{h:AH}{M:WK}{R:RK}(hp:bt (fun id=>M id\/h.next<=id) (aJ Pg [.tmp 10] R) (aJ Pg [.tmp 10] R) (fun _ _ _=>False) (fun v h=>R (.cg v) h) x0 x1 x2 x3 x4 h):aE Pg 60 [x0,x1,x2,x3,x4] h M R:=
 fin (n:=45) (pl:=[(5,⟨[(none,(fr 0 9))],false,[],[]⟩),(7,⟨[(none,(fr 0 10))],false,[],[]⟩),(8,⟨[(none,(fr 0 8))],false,[],[]⟩)]) (rs:=[.tmp 10]) (L:=rs) (fun c=>(a5 bt 0 1 2 3 4 c)) Try.mixed Try.func60 (fun c=>
(sq (a5 bt 0 1 2 3 4 c)
(sn
(sq (a3 n3 2 3 6 c)
(sq (a2 n2 3 6 c)
(sl (a0 n1 c))))
(bk 0 (sq (a5 bc 0 2 3 4 6 c)
(cd (a5 a_ 2 3 4 6 11 c) (sl (a0 n4 c)) (sq (a4 aQ 2 3 4 6 c)
(cd (a5 n9 2 3 4 6 16 c) (sl (a0 n5 c)) (sq (a4 n8 2 3 4 6 c)
(cd (a4 n7 2 3 6 20 c) (sl (a0 n6 c)) tr)))))))))) hp
attribute [simp] n1 n2 n3 n4 n5 n6 n7 n8 n9 aQ a_ bc bt
end jm
namespace gq
abbrev rs:List Nat:=[6]
def n1:N0:=fun _ R _ _ _ h=>
R [(.sc (.int .i64 0))] h
def n2:N3:=fun W R N E P x0 x4 x7 h=>
aP x0 fun t1=>
ai (some 3) t1 fun t2=>
al (some false) (some 1) t2 h fun t3 _=>
ai (some 1) x4 fun t5=>
al (some false) (some 1) t5 h fun t6 _=>
eH Pg (some (9,87)) t3 t6 x7 h W fun h8=>
n1 W R N E P h8
def n3:N7:=fun _ _ N _ _ x0 x4 x7 ap jI fJ jn h=>
ah Pg .add 3 true jn (.sc (.int .i64 1)) fun t9=>
N [x0,x4,x7,ap,jI,fJ,t9] h
def n4:N8:=fun W R N E P x0 x4 x7 ap ax jI fJ jn h=>
aP x7 fun t10=>
ai (some 1) t10 fun t11=>
al (some false) (some 1) t11 h fun t12 _=>
ai (some 0) ax fun t14=>
al (some false) (some 1) t14 h fun t15 _=>
dX (some (1,9,[.string ⟨#[]⟩])) 1 [(0,t15)] h fun t17 vQ=>
fu (some (1,16,9)) t12 t17 vQ W fun t19 sW=>
aP x7 fun t21=>
ai (some 1) t21 fun t22=>
aG (some 1) t22 t19 sW W fun Dy=>
n3 W R N E P x0 x4 x7 ap jI fJ jn Dy
def n5:N9:=fun W R N E P x0 x4 x7 ap aq ax jI fJ jn h=>
ai (some 0) ax fun t24=>
al (some false) (some 1) t24 h fun t25 _=>
eH Pg (some (9,3)) ap t25 aq h W fun vO=>
n4 W R N E P x0 x4 x7 ap ax jI fJ jn vO
def n6:N0:=fun _ R _ _ _ h=>
R [(.sc (.int .i64 113))] h
def n7:km:=fun W R N E P x0 x4 x7 ap aq ax jI fJ jn S0 h=>
aH S0 (
n6 W R N E P h) (
n5 W R N E P x0 x4 x7 ap aq ax jI fJ jn h)
def n8:km:=fun W R N E P x0 x4 x7 ap aq ax aY jI fJ jn h=>
n7 W R N E P x0 x4 x7 ap aq ax jI fJ jn aY h
def n9:N9:=fun W R N E P x0 x4 x7 ap aq ax jI fJ jn h=>
ai (some 0) ax fun t28=>
al (some false) (some 1) t28 h fun t29 _=>
gH Pg (some (9,3)) ap t29 true h fun t31 _=>
dm t31 0 fun t33=>
dm t31 1 fun t34=>
n8 W R N E P x0 x4 x7 ap aq ax t34 jI fJ jn h
def aQ:N7:=fun W R N E P x0 x4 x7 ap jI fJ jn h=>
br (some (2,none)) jI jn fun t35=>
al (some true) (some 2) t35 h fun t36 _=>
bw (some [.string ⟨#[]⟩,.int .i64 0]) 2 44 h fun t38 vL=>
aG (some 2) t38 t36 vL W fun Dv=>
n9 W R N E P x0 x4 x7 ap jn t38 jI fJ jn Dv
def a_:N8:=fun W R N E P x0 x4 x7 ap jI fJ jn jZ h=>
aH jZ (
aQ W R N E P x0 x4 x7 ap jI fJ jn h) (
E 2 [x0,x4,x7] h)
def bc:N7:=fun W R N E P x0 x4 x7 ap jI fJ jn h=>
ah Pg .lss 3 false jn fJ fun t41=>
a_ W R N E P x0 x4 x7 ap jI fJ jn t41 h
def cB:GK:=fun W R N E P N' vs h=>bc W R N' (fun(i:Nat) (vs:List AV) (h:AH)=>if i=2 then n2 W R N E P (vs.getD 0 aa) (vs.getD 1 aa) (vs.getD 2 aa) h else E i vs h) P (vs.getD 0 aa) (vs.getD 1 aa) (vs.getD 2 aa) (vs.getD 3 aa) (vs.getD 4 aa) (vs.getD 5 aa) (vs.getD 6 aa) h
def bt:N7:=fun W R N E P x0 x4 x7 ap jI fJ jn h=>
cY (cB W R N E P) [x0,x4,x7,ap,jI,fJ,jn] h
def bD:N4:=fun W R N E P x0 x4 x7 ap h=>
ai (some 2) x4 fun t42=>
al (some false) (some 1) t42 h fun t43 _=>
(ba t43=false)/\bK t43 fun t45=>
bt W R N E P x0 x4 x7 ap t43 t45 (.sc (.int .i64 0)) h
def bC:N3:=fun W R N E P x0 x4 x7 h=>
qw 120 h fun t46 yV=>
bD W R N E P x0 x4 x7 t46 yV
def bz:N6:=fun _ _ N _ _ x0 x4 x7 oW kA kf h=>
ah Pg .add 3 true kf (.sc (.int .i64 1)) fun t48=>
N [x0,x4,x7,oW,kA,t48] h
def bH:N0:=fun _ R _ _ _ h=>
R [(.sc (.int .i64 112))] h
def bO:N7:=fun W R N E P x0 x4 x7 oW kA kf mP h=>
aH mP (
bH W R N E P h) (
bz W R N E P x0 x4 x7 oW kA kf h)
def bQ:N7:=fun W R N E P x0 x4 x7 x9 oW kA kf h=>
ai (some 1) x9 fun t49=>
al (some false) (some 1) t49 h fun t50 _=>
ah Pg .neq 3 true t50 (.sc (.int .i64 (-1))) fun t52=>
bO W R N E P x0 x4 x7 oW kA kf t52 h
def b_:N6:=fun W R N E P x0 x4 x7 oW kA kf h=>
br (some (2,none)) oW kf fun t53=>
al (some true) (some 2) t53 h fun t54 _=>
bw (some [.string ⟨#[]⟩,.int .i64 0]) 2 44 h fun t56 xg=>
aG (some 2) t56 t54 xg W fun BC=>
bQ W R N E P x0 x4 x7 t56 oW kA kf BC
def cp:N7:=fun W R N E P x0 x4 x7 oW kA kf wj h=>
aH wj (
b_ W R N E P x0 x4 x7 oW kA kf h) (
E 0 [x0,x4,x7] h)
def bW:N6:=fun W R N E P x0 x4 x7 oW kA kf h=>
ah Pg .lss 3 false kf kA fun t59=>
cp W R N E P x0 x4 x7 oW kA kf t59 h
def fY:GK:=fun W R N E P N' vs h=>bW W R N' (fun(i:Nat) (vs:List AV) (h:AH)=>if i=0 then bC W R N E P (vs.getD 0 aa) (vs.getD 1 aa) (vs.getD 2 aa) h else E i vs h) P (vs.getD 0 aa) (vs.getD 1 aa) (vs.getD 2 aa) (vs.getD 3 aa) (vs.getD 4 aa) (vs.getD 5 aa) h
def cb:N6:=fun W R N E P x0 x4 x7 oW kA kf h=>
cY (fY W R N E P) [x0,x4,x7,oW,kA,kf] h
def cn:N3:=fun W R N E P x0 x4 x7 h=>
ai (some 2) x4 fun t60=>
al (some false) (some 1) t60 h fun t61 _=>
(ba t61=false)/\bK t61 fun t63=>
cb W R N E P x0 x4 x7 t61 t63 (.sc (.int .i64 0)) h
def cj:N3:=fun W R N E P x0 x2 x4 h=>
ai (some 1) x4 fun t64=>
al (some false) (some 1) t64 h fun t65 _=>
ah Pg .add 3 true x2 (.sc (.int .i64 1)) fun t67=>
ah Pg .add 3 true x2 (.sc (.int .i64 1)) fun t68=>
ai (some 4) x4 fun t69=>
al (some false) (some 1) t69 h fun t70 _=>
ah Pg .add 3 false t68 t70 fun t72=>
cR (some ([.string ⟨#[]⟩,.slice none 0 0,.int .i64 0,.int .i64 0,.int .i64 0,.int .i64 0,.bool false],.inl [(0,1),(1,1),(2,1),(3,1),(4,1),(5,1),(6,1)])) [(0,t65),(2,t67),(3,t72),(4,(.sc (.int .i64 1)))] fun t73=>
eI 7 91 t73 h fun t74 FC=>
cn W R N E P x0 x4 t74 FC
def cl:N0:=fun _ R _ _ _ h=>
R [(.sc (.int .i64 111))] h
def bV:N4:=fun W R N E P x0 x2 x4 lz h=>
aH lz (
cl W R N E P h) (
cj W R N E P x0 x2 x4 h)
def cy:N3:=fun W R N E P x0 x2 x4 h=>
ai (some 2) x4 fun t76=>
al (some false) (some 1) t76 h fun t77 _=>
(ba t77=false)/\bK t77 fun t79=>
ah Pg .eql 3 true t79 (.sc (.int .i64 0)) fun t80=>
bV W R N E P x0 x2 x4 t80 h
def cz:N0:=fun _ R _ _ _ h=>
R [(.sc (.int .i64 110))] h
def cK:N4:=fun W R N E P x0 x2 x4 bI h=>
aH bI (
cz W R N E P h) (
cy W R N E P x0 x2 x4 h)
def da:N3:=fun W R N E P x0 x2 x4 h=>
ai (some 1) x4 fun t81=>
al (some false) (some 1) t81 h fun t82 _=>
aC Pg W 84 [x0,t82] h (fun t84 rP=>
cK W R N E P x0 x2 x4 t84 rP) P
def cT:N3:=fun W R N E P x0 x1 x2 h=>
eI 6 42 x1 h fun t86 BA=>
da W R N E P x0 x2 t86 BA
theorem aM{x0 x1 x2:AV}{h:AH}{M:WK}{R:RK}(hp:cT (fun id=>M id\/h.next<=id) (aJ Pg [.tmp 6] R) (aJ Pg [.tmp 6] R) (fun _ _ _=>False) (fun v h=>R (.cg v) h) x0 x1 x2 h):aE Pg 61 [x0,x1,x2] h M R:=
 fin (n:=85) (pl:=[(20,⟨[(none,(fr 0 12))],false,[],[]⟩),(22,⟨[(none,(fr 0 8))],false,[],[]⟩)]) (rs:=[.tmp 6]) (L:=rs) (fun c=>(a3 cT 0 1 2 c)) Try.mixed Try.func61 (fun c=>
(sq (a3 cT 0 1 2 c)
(sn
(sn
(sq (a3 cj 0 2 4 c)
(sn
(sq (a3 bC 0 4 7 c)
(sn
(sq (a3 n2 0 4 7 c)
(sl (a0 n1 c)))
(sq (a4 bD 0 4 7 10 c)
(bk 2 (lp [0,4,7,10,47,48,49] rs [(2,[0,4,7])] (a7 bt 0 4 7 10 47 48 49 c) cB (fun i vs h=>if i=2 then n2 c.W c.R c.N c.E c.P (vs.getD 0 aa) (vs.getD 1 aa) (vs.getD 2 aa) h else c.E i vs h) (.b (.t .o)) fun c=>
(sq (a7 bc 0 4 7 10 47 48 49 c)
(sn
(sn
(sm (a7 n3 0 4 7 10 47 48 49 c))
(bk 3 (sq (a7 aQ 0 4 7 10 47 48 49 c)
(sn
(sq (a9 n5 0 4 7 10 11 12 47 48 49 c)
(sm (a8 n4 0 4 7 10 12 47 48 49 c)))
(sq (a9 n9 0 4 7 10 11 12 47 48 49 c)
(sq (kE n8 0 4 7 10 11 12 14 47 48 49 c)
(cd (kE n7 0 4 7 10 11 12 47 48 49 61 c) (sl (a0 n6 c)) tr)))))))
(cd (a8 a_ 0 4 7 10 47 48 49 50 c) tr tr))))))))
(sq (a3 cn 0 4 7 c)
(bk 0 (lp [0,4,7,35,36,37] rs [(0,[0,4,7])] (a6 cb 0 4 7 35 36 37 c) fY (fun i vs h=>if i=0 then bC c.W c.R c.N c.E c.P (vs.getD 0 aa) (vs.getD 1 aa) (vs.getD 2 aa) h else c.E i vs h) (.b (.t .o)) fun c=>
(sq (a6 bW 0 4 7 35 36 37 c)
(sn
(sn
(sm (a6 bz 0 4 7 35 36 37 c))
(bk 1 (sq (a6 b_ 0 4 7 35 36 37 c)
(sq (a7 bQ 0 4 7 9 35 36 37 c)
(cd (a7 bO 0 4 7 35 36 37 43 c) (sl (a0 bH c)) tr)))))
(cd (a7 cp 0 4 7 35 36 37 38 c) tr tr))))))))
(sq (a3 cy 0 2 4 c)
(cd (a4 bV 0 2 4 22 c) (sl (a0 cl c)) tr)))
(sq (a3 da 0 2 4 c)
(cd (a4 cK 0 2 4 18 c) (sl (a0 cz c)) tr))))) hp
attribute [simp] n1 n2 n3 n4 n5 n6 n7 n8 n9 aQ a_ bc bD bC bz bH bO bQ b_ cp bW cn cj cl bV cy cz cK da cT
end gq
namespace cU
abbrev rs:List Nat:=[6]
def n1:N0:=fun _ R _ _ _ h=>
R [(.sc (.int .i64 0))] h
def n2:N2:=fun W R N E P x2 x8 h=>
aP x2 fun t1=>
ai (some 4) t1 fun t2=>
al (some false) (some 1) t2 h fun t3 _=>
ah Pg .add 3 true x8 (.sc (.int .i64 1)) fun t5=>
qy false t3 t5 fun t6=>
aP x2 fun t7=>
ai (some 4) t7 fun t8=>
aG (some 1) t8 t6 h W fun h9=>
n1 W R N E P h9
def n3:N0:=fun _ R _ _ _ h=>
R [(.sc (.int .i64 102))] h
def n4:N3:=fun W R N E P x2 x8 Zo h=>
aH Zo (
n3 W R N E P h) (
n2 W R N E P x2 x8 h)
def n5:N2:=fun W R N E P x2 x8 h=>
ah Pg .add 3 true x8 (.sc (.int .i64 1)) fun t10=>
ah Pg .gtr 3 true t10 (.sc (.int .i64 32)) fun t11=>
n4 W R N E P x2 x8 t11 h
def n6:N3:=fun W R N E P x2 x8 Mj h=>
aH Mj (
n5 W R N E P x2 x8 h) (
n1 W R N E P h)
def n7:N2:=fun W R N E P x2 x8 h=>
ah Pg .neq 87 true x2 (.sc (.pointer none)) fun t12=>
n6 W R N E P x2 x8 t12 h
def n8:N6:=fun _ _ N _ _ x2 x8 aY ia ij gM h=>
ah Pg .add 3 true gM (.sc (.int .i64 1)) fun t13=>
N [x2,x8,aY,ia,ij,t13] h
def n9:N8:=fun W R N E P x2 x8 aY aL cW ia ij gM h=>
al (some true) (some 2) cW h fun t14 _=>
eH Pg (some (44,3)) aY t14 aL h W fun sX=>
n8 W R N E P x2 x8 aY ia ij gM sX
def aQ:N0:=fun _ R _ _ _ h=>
R [(.sc (.int .i64 113))] h
def a_:N9:=fun W R N E P x2 x8 aY aL cW ia ij gM Zr h=>
aH Zr (
aQ W R N E P h) (
n9 W R N E P x2 x8 aY aL cW ia ij gM h)
def bc:N9:=fun W R N E P x2 x8 aY aL cW bI ia ij gM h=>
a_ W R N E P x2 x8 aY aL cW ia ij gM bI h
def bt:N8:=fun W R N E P x2 x8 aY aL cW ia ij gM h=>
al (some true) (some 2) cW h fun t17 _=>
gH Pg (some (44,3)) aY t17 true h fun t19 _=>
dm t19 0 fun t21=>
dm t19 1 fun t22=>
bc W R N E P x2 x8 aY aL cW t22 ia ij gM h
def bD:N6:=fun W R N E P x2 x8 aY ia ij gM h=>
br (some (2,none)) ia gM fun t23=>
al (some true) (some 2) t23 h fun t24 _=>
bw (some [.string ⟨#[]⟩,.int .i64 0]) 2 44 h fun t26 vO=>
aG (some 2) t26 t24 vO W fun qI=>
bt W R N E P x2 x8 aY gM t26 ia ij gM qI
def bC:N7:=fun W R N E P x2 x8 aY ia ij gM zk h=>
aH zk (
bD W R N E P x2 x8 aY ia ij gM h) (
E 2 [x2,x8] h)
def bz:N6:=fun W R N E P x2 x8 aY ia ij gM h=>
ah Pg .lss 3 false gM ij fun t29=>
bC W R N E P x2 x8 aY ia ij gM t29 h
def cB:GK:=fun W R N E P N' vs h=>bz W R N' (fun(i:Nat) (vs:List AV) (h:AH)=>if i=2 then n7 W R N E P (vs.getD 0 aa) (vs.getD 1 aa) h else E i vs h) P (vs.getD 0 aa) (vs.getD 1 aa) (vs.getD 2 aa) (vs.getD 3 aa) (vs.getD 4 aa) (vs.getD 5 aa) h
def bH:N6:=fun W R N E P x2 x8 aY ia ij gM h=>
cY (cB W R N E P) [x2,x8,aY,ia,ij,gM] h
def bO:N4:=fun W R N E P x2 x4 x8 aY h=>
ai (some 2) x4 fun t30=>
al (some false) (some 1) t30 h fun t31 _=>
(ba t31=false)/\bK t31 fun t33=>
bH W R N E P x2 x8 aY t31 t33 (.sc (.int .i64 0)) h
def bQ:N3:=fun W R N E P x2 x4 x8 h=>
qw 144 h fun t34 oM=>
bO W R N E P x2 x4 x8 t34 oM
def b_:N7:=fun _ _ N _ _ x0 x2 x4 x8 gv gf iH h=>
ah Pg .add 3 true iH (.sc (.int .i64 1)) fun t36=>
N [x0,x2,x4,x8,gv,gf,t36] h
def cp:N0:=fun _ R _ _ _ h=>
R [(.sc (.int .i64 110))] h
def bW:N8:=fun W R N E P x0 x2 x4 x8 gv gf iH v7 h=>
aH v7 (
cp W R N E P h) (
b_ W R N E P x0 x2 x4 x8 gv gf iH h)
def cb:N8:=fun W R N E P x0 x2 x4 x8 ax gv gf iH h=>
aP x2 fun t37=>
ai (some 1) t37 fun t38=>
al (some false) (some 1) t38 h fun t39 _=>
ai (some 0) ax fun t41=>
al (some false) (some 1) t41 h fun t42 _=>
aC Pg oY 85 [t39,t42] h (fun t44 qH=>
im .not t44 fun t46=>
bW W R N E P x0 x2 x4 x8 gv gf iH t46 qH) P
def cn:N0:=fun _ R _ _ _ h=>
R [(.sc (.int .i64 112))] h
def cj:N9:=fun W R N E P x0 x2 x4 x8 ax gv gf iH Eb h=>
aH Eb (
cn W R N E P h) (
cb W R N E P x0 x2 x4 x8 ax gv gf iH h)
def cl:N8:=fun W R N E P x0 x2 x4 x8 ax gv gf iH h=>
ai (some 1) ax fun t47=>
al (some false) (some 1) t47 h fun t48 _=>
ah Pg .neq 3 true t48 (.sc (.int .i64 (-1))) fun t50=>
cj W R N E P x0 x2 x4 x8 ax gv gf iH t50 h
def bV:N7:=fun W R N E P x0 x2 x4 x8 gv gf iH h=>
b_ W R N E P x0 x2 x4 x8 gv gf iH h
def cy:N1:=fun _ R _ _ _ bg h=>
R [bg] h
def cz:N9:=fun W R N E P x0 x2 x4 x8 bg gv gf iH ly h=>
aH ly (
cy W R N E P bg h) (
bV W R N E P x0 x2 x4 x8 gv gf iH h)
def cK:N8:=fun W R N E P x0 x2 x4 x8 bg gv gf iH h=>
ah Pg .neq 30 true bg (.sc (.int .i64 0)) fun t51=>
cz W R N E P x0 x2 x4 x8 bg gv gf iH t51 h
def da:N8:=fun W R N E P x0 x2 x4 x8 ax gv gf iH h=>
aP x0 fun t52=>
ai (some 1) t52 fun t53=>
al (some false) (some 1) t53 h fun t54 _=>
al (some true) (some 2) ax h fun t56 _=>
aC Pg oY 63 [t54,t56] h (fun t58 BB=>
cK W R N E P x0 x2 x4 x8 t58 gv gf iH BB) P
def cT:N9:=fun W R N E P x0 x2 x4 x8 ax gv gf iH SY h=>
aH SY (
da W R N E P x0 x2 x4 x8 ax gv gf iH h) (
cl W R N E P x0 x2 x4 x8 ax gv gf iH h)
def dx:N8:=fun W R N E P x0 x2 x4 x8 ax gv gf iH h=>
ah Pg .eql 87 true x2 (.sc (.pointer none)) fun t60=>
cT W R N E P x0 x2 x4 x8 ax gv gf iH t60 h
def dW:N7:=fun W R N E P x0 x2 x4 x8 gv gf iH h=>
br (some (2,none)) gv iH fun t61=>
al (some true) (some 2) t61 h fun t62 _=>
bw (some [.string ⟨#[]⟩,.int .i64 0]) 2 44 h fun t64 FG=>
aG (some 2) t64 t62 FG W fun Lb=>
dx W R N E P x0 x2 x4 x8 t64 gv gf iH Lb
def dT:N8:=fun W R N E P x0 x2 x4 x8 gv gf iH v_ h=>
aH v_ (
dW W R N E P x0 x2 x4 x8 gv gf iH h) (
E 0 [x2,x4,x8] h)
def dV:N7:=fun W R N E P x0 x2 x4 x8 gv gf iH h=>
ah Pg .lss 3 false iH gf fun t67=>
dT W R N E P x0 x2 x4 x8 gv gf iH t67 h
def fY:GK:=fun W R N E P N' vs h=>dV W R N' (fun(i:Nat) (vs:List AV) (h:AH)=>if i=0 then bQ W R N E P (vs.getD 0 aa) (vs.getD 1 aa) (vs.getD 2 aa) h else E i vs h) P (vs.getD 0 aa) (vs.getD 1 aa) (vs.getD 2 aa) (vs.getD 3 aa) (vs.getD 4 aa) (vs.getD 5 aa) (vs.getD 6 aa) h
def ed:N7:=fun W R N E P x0 x2 x4 x8 gv gf iH h=>
cY (fY W R N E P) [x0,x2,x4,x8,gv,gf,iH] h
def eJ:N4:=fun W R N E P x0 x2 x4 x8 h=>
ai (some 2) x4 fun t68=>
al (some false) (some 1) t68 h fun t69 _=>
(ba t69=false)/\bK t69 fun t71=>
ed W R N E P x0 x2 x4 x8 t69 t71 (.sc (.int .i64 0)) h
def dF:N0:=fun _ R _ _ _ h=>
R [(.sc (.int .i64 111))] h
def d_:N5:=fun W R N E P x0 x2 x4 x8 SZ h=>
aH SZ (
dF W R N E P h) (
eJ W R N E P x0 x2 x4 x8 h)
def dL:N5:=fun W R N E P x0 x2 x4 x7 x8 h=>
ai (some 2) x4 fun t72=>
al (some false) (some 1) t72 h fun t73 _=>
(ba t73=false)/\bK t73 fun t75=>
ah Pg .neq 3 false t75 x7 fun t76=>
d_ W R N E P x0 x2 x4 x8 t76 h
def eC:N0:=fun _ R _ _ _ h=>
R [(.sc (.int .i64 80))] h
def eu:N6:=fun W R N E P x0 x2 x4 x7 x8 tI h=>
aH tI (
eC W R N E P h) (
dL W R N E P x0 x2 x4 x7 x8 h)
def dO:N5:=fun W R N E P x0 x2 x4 x7 x8 h=>
ah Pg .eql 3 true x7 (.sc (.int .i64 0)) fun t77=>
eu W R N E P x0 x2 x4 x7 x8 t77 h
def e_:N7:=fun W R N E P x0 x2 x4 x7 x8 x9 jn h=>
aH jn (
aP x9 fun t78=>
ai (some 1) t78 fun t79=>
al (some false) (some 1) t79 h fun t80 _=>
(ba t80=false)/\bK t80 fun t82=>
aP x9 fun t83=>
ai (some 4) t83 fun t84=>
al (some false) (some 1) t84 h fun t85 _=>
dO W R N E P x0 x2 x4 t82 t85 h) (
dO W R N E P x0 x2 x4 x7 x8 h)
def fg:N8:=fun W R N E P x0 x2 x4 x7 x8 x9 gE fJ h=>
aV gE fJ (.sc (.bool false)) fun t87=>
e_ W R N E P x0 x2 x4 x7 x8 x9 t87 h
def hG:N7:=fun W R N E P x0 x2 x4 x7 x8 x9 gE h=>
bF true gE (
aP x9 fun t88=>
ai (some 6) t88 fun t89=>
al (some false) (some 1) t89 h fun t90 _=>
fg W R N E P x0 x2 x4 x7 x8 x9 gE t90 h) (
fg W R N E P x0 x2 x4 x7 x8 x9 gE aa h)
def gg:N7:=fun W R N E P x0 x2 x4 x7 x8 x9 ap h=>
hG W R N E P x0 x2 x4 x7 x8 x9 ap h
def fq:N5:=fun W R N E P x0 x2 x4 x7 x8 h=>
aP x0 fun t92=>
ai (some 3) t92 fun t93=>
al (some false) (some 1) t93 h fun t94 _=>
ai (some 1) x4 fun t96=>
al (some false) (some 1) t96 h fun t97 _=>
gH Pg (some (9,87)) t94 t97 true h fun t99 _=>
dm t99 0 fun t101=>
dm t99 1 fun t102=>
gg W R N E P x0 x2 x4 x7 x8 t101 t102 h
def iu:N3:=fun W R N E P x0 x2 x4 h=>
ai (some 1) x4 fun t103=>
al (some false) (some 1) t103 h fun t104 _=>
aC Pg W 47 [t104] h (fun t106 FP=>
fq W R N E P x0 x2 x4 t106 (.sc (.int .i64 0)) FP) P
def jD:N0:=fun _ R _ _ _ h=>
R [(.sc (.int .i64 114))] h
def jC:N4:=fun W R N E P x0 x2 x4 pS h=>
aH pS (
jD W R N E P h) (
iu W R N E P x0 x2 x4 h)
def ir:N5:=fun W R N E P x0 x2 x4 dK jd h=>
aV dK jd (.sc (.bool false)) fun t108=>
jC W R N E P x0 x2 x4 t108 h
def kO:N4:=fun W R N E P x0 x2 x4 dK h=>
bF true dK (
ai (some 1) x4 fun t109=>
al (some false) (some 1) t109 h fun t110 _=>
aP x2 fun t112=>
ai (some 0) t112 fun t113=>
al (some false) (some 1) t113 h fun t114 _=>
ah Pg .eql 9 false t110 t114 fun t116=>
ir W R N E P x0 x2 x4 dK t116 h) (
ir W R N E P x0 x2 x4 dK aa h)
def mQ:N3:=fun W R N E P x0 x2 x4 h=>
ah Pg .neq 87 true x2 (.sc (.pointer none)) fun t117=>
kO W R N E P x0 x2 x4 t117 h
def mq:N3:=fun W R N E P x0 x1 x2 h=>
eI 6 42 x1 h fun t118 abK=>
mQ W R N E P x0 x2 t118 abK
theorem aM{x0 x1 x2:AV}{h:AH}{M:WK}{R:RK}(hp:mq (fun id=>M id\/h.next<=id) (aJ Pg [.tmp 6] R) (aJ Pg [.tmp 6] R) (fun _ _ _=>False) (fun v h=>R (.cg v) h) x0 x1 x2 h):aE Pg 62 [x0,x1,x2] h M R:=
 fin (n:=131) (pl:=[(1,⟨[(none,(fr 0 3)),(some (2,true),(fr 3 7)),(none,(fr 10 1))],false,[],[]⟩),(4,⟨[(none,(fr 0 12))],false,[],[]⟩),(5,⟨[(none,(fr 0 2)),(some (1,true),(fr 2 4)),(none,(fr 6 1))],false,[],[]⟩),(6,⟨[(none,(fr 0 11))],false,[],[]⟩),(15,⟨[(none,(fr 0 7))],false,[],[5]⟩),(20,⟨[(none,(fr 0 8))],false,[],[6]⟩)]) (rs:=[.tmp 6]) (L:=rs) (fun c=>(a3 mq 0 1 2 c)) Try.mixed Try.func62 (fun c=>
(sq (a3 mq 0 1 2 c)
(sn
(sq (a3 iu 0 2 4 c)
(sn
(sn
(sn
(sn
(sq (a3 bQ 2 4 8 c)
(sn
(sn
(sl (a0 n1 c))
(sq (a2 n7 2 8 c)
(cd (a3 n6 2 8 117 c) (sn
(sm (a2 n2 2 8 c))
(sq (a2 n5 2 8 c)
(cd (a3 n4 2 8 120 c) (sl (a0 n3 c)) tr))) tr)))
(sq (a4 bO 2 4 8 14 c)
(bk 2 (lp [2,8,14,98,99,100] rs [(2,[2,8])] (a6 bH 2 8 14 98 99 100 c) cB (fun i vs h=>if i=2 then n7 c.W c.R c.N c.E c.P (vs.getD 0 aa) (vs.getD 1 aa) h else c.E i vs h) (.b (.t .o)) fun c=>
(sq (a6 bz 2 8 14 98 99 100 c)
(sn
(sn
(sm (a6 n8 2 8 14 98 99 100 c))
(bk 3 (sq (a6 bD 2 8 14 98 99 100 c)
(sn
(sm (a8 n9 2 8 14 15 16 98 99 100 c))
(sq (a8 bt 2 8 14 15 16 98 99 100 c)
(sq (a9 bc 2 8 14 15 16 18 98 99 100 c)
(cd (a9 a_ 2 8 14 15 16 98 99 100 111 c) (sl (a0 aQ c)) tr)))))))
(cd (a7 bC 2 8 14 98 99 100 101 c) tr tr))))))))
(sq (a4 eJ 0 2 4 8 c)
(bk 0 (lp [0,2,4,8,67,68,69] rs [(0,[2,4,8])] (a7 ed 0 2 4 8 67 68 69 c) fY (fun i vs h=>if i=0 then bQ c.W c.R c.N c.E c.P (vs.getD 0 aa) (vs.getD 1 aa) (vs.getD 2 aa) h else c.E i vs h) (.b (.t .o)) fun c=>
(sq (a7 dV 0 2 4 8 67 68 69 c)
(sn
(sn
(sm (a7 b_ 0 2 4 8 67 68 69 c))
(bk 1 (sq (a7 dW 0 2 4 8 67 68 69 c)
(sn
(sn
(sn
(cd (a8 bW 0 2 4 8 67 68 69 94 c) (sl (a0 cp c)) tr)
(gr (gl (a8 cb 0 2 4 8 12 67 68 69 c))))
(sq (a8 cl 0 2 4 8 12 67 68 69 c)
(cd (a9 cj 0 2 4 8 12 67 68 69 86 c) (sl (a0 cn c)) tr)))
(sq (a8 dx 0 2 4 8 12 67 68 69 c)
(cd (a9 cT 0 2 4 8 12 67 68 69 74 c) (sn
(sm (a7 bV 0 2 4 8 67 68 69 c))
(sn
(sq (a8 cK 0 2 4 8 13 67 68 69 c)
(cd (a9 cz 0 2 4 8 13 67 68 69 82 c) (sl (a1 cy 13 c)) tr))
(gr (gl (a8 da 0 2 4 8 12 67 68 69 c))))) tr))))))
(cd (a8 dT 0 2 4 8 67 68 69 70 c) tr tr)))))))
(sq (a5 dL 0 2 4 7 8 c)
(cd (a5 d_ 0 2 4 8 65 c) (sl (a0 dF c)) tr)))
(sq (a5 dO 0 2 4 7 8 c)
(cd (a6 eu 0 2 4 7 8 60 c) (sl (a0 eC c)) tr)))
(sq (a5 fq 0 2 4 7 8 c)
(sn
(cd (a7 e_ 0 2 4 7 8 9 49 c) tr tr)
(gr (gn (a7 gg 0 2 4 7 8 9 10 c) (gx (a7 hG 0 2 4 7 8 9 44 c) (gl (a8 fg 0 2 4 7 8 9 44 48 c)))))))))
(sn
(cd (a4 jC 0 2 4 29 c) (sl (a0 jD c)) tr)
(gr (gn (a3 mQ 0 2 4 c) (gx (a4 kO 0 2 4 21 c) (gl (a5 ir 0 2 4 21 28 c))))))))) hp
attribute [simp] n1 n2 n3 n4 n5 n6 n7 n8 n9 aQ a_ bc bt bD bC bz bO bQ b_ cp bW cb cn cj cl bV cy cz cK da cT dx dW dT dV eJ dF d_ dL eC eu dO e_ fg hG gg fq iu jD jC ir kO mQ mq
end cU
namespace Gz
abbrev rs:List Nat:=[4]
def n1:N0:=fun _ R _ _ _ h=>
R [(.sc (.int .i64 0))] h
def n2:N0:=fun _ R _ _ _ h=>
R [(.sc (.int .i64 112))] h
def n3:N1:=fun W R N E P lf h=>
aH lf (
n2 W R N E P h) (
n1 W R N E P h)
def n4:N2:=fun W R N E P dt je h=>
aV dt (.sc (.bool true)) je fun t1=>
n3 W R N E P t1 h
def n5:N3:=fun W R N E P x3 x5 dt h=>
bF false dt (
ai (some 1) x3 fun t2=>
al (some false) (some 1) t2 h fun t3 _=>
ai (some 1) x5 fun t5=>
al (some false) (some 1) t5 h fun t6 _=>
ah Pg .geq 3 false t3 t6 fun t8=>
n4 W R N E P dt t8 h) (
n4 W R N E P dt aa h)
def n6:N2:=fun W R N E P x3 x5 h=>
ai (some 1) x3 fun t9=>
al (some false) (some 1) t9 h fun t10 _=>
ah Pg .lss 3 true t10 (.sc (.int .i64 0)) fun t12=>
n5 W R N E P x3 x5 t12 h
def n7:N0:=fun _ R _ _ _ h=>
R [(.sc (.int .i64 110))] h
def n8:N3:=fun W R N E P x3 x5 aL h=>
aH aL (
n7 W R N E P h) (
n6 W R N E P x3 x5 h)
def n9:N3:=fun W R N E P x3 x5 x6 h=>
im .not x6 fun t13=>
n8 W R N E P x3 x5 t13 h
def aQ:N2:=fun W R N E P x0 x3 h=>
ai (some 0) x3 fun t14=>
al (some false) (some 1) t14 h fun t15 _=>
gH Pg (some (9,93)) x0 t15 true h fun t17 _=>
dm t17 0 fun t19=>
dm t17 1 fun t20=>
bw (some [.int .i64 0,.int .i64 0]) 2 93 h fun t21 uf=>
aG (some 2) t21 t19 uf W fun Dy=>
n9 W R N E P x3 t21 t20 Dy
def a_:N2:=fun W R N E P x0 x1 h=>
eI 2 44 x1 h fun t24 vP=>
aQ W R N E P x0 t24 vP
theorem aM{x0 x1:AV}{h:AH}{M:WK}{R:RK}(hp:a_ (fun id=>M id\/h.next<=id) (aJ Pg [.tmp 4] R) (aJ Pg [.tmp 4] R) (fun _ _ _=>False) (fun v h=>R (.cg v) h) x0 x1 h):aE Pg 63 [x0,x1] h M R:=
 fin (n:=26) (pl:=[(4,⟨[(none,(fr 0 4)),(some (3,false),(fr 4 5)),(none,(fr 9 1))],false,[],[]⟩)]) (rs:=[.tmp 4]) (L:=rs) (fun c=>(a2 a_ 0 1 c)) Try.mixed Try.func63 (fun c=>
(sq (a2 a_ 0 1 c)
(sq (a2 aQ 0 3 c)
(sn
(sn
(sl (a0 n1 c))
(sn
(cd (a1 n3 25 c) (sl (a0 n2 c)) tr)
(gr (gn (a2 n6 3 5 c) (gx (a3 n5 3 5 19 c) (gl (a2 n4 19 24 c)))))))
(sq (a3 n9 3 5 6 c)
(cd (a3 n8 3 5 15 c) (sl (a0 n7 c)) tr)))))) hp
attribute [simp] n1 n2 n3 n4 n5 n6 n7 n8 n9 aQ a_
end Gz
namespace uq
abbrev rs:List Nat:=[4]
def n1:N1:=fun _ R _ _ _ x4 h=>
R [x4] h
def n2:N2:=fun W R N E P gL fJ h=>
aV gL (.sc (.bool true)) fJ fun t1=>
n1 W R N E P t1 h
def n3:N2:=fun W R N E P x1 gL h=>
bF false gL (
aC Pg W 47 [x1] h (fun t2 h3=>
ah Pg .gtr 3 true t2 (.sc (.int .i64 0)) fun t4=>
n2 W R N E P gL t4 h3) P) (
n2 W R N E P gL aa h)
def n4:N3:=fun W R N E P x1 mY mP h=>
aV mY (.sc (.bool true)) mP fun t5=>
n3 W R N E P x1 t5 h
def n5:N3:=fun W R N E P x1 ap mY h=>
bF false mY (
n4 W R N E P x1 mY ap h) (
n4 W R N E P x1 mY aa h)
def n6:N4:=fun W R N E P x1 ap wh Ee h=>
aV wh (.sc (.bool true)) Ee fun t6=>
n5 W R N E P x1 ap t6 h
def n7:N4:=fun W R N E P x1 x8 ap wh h=>
bF false wh (
n6 W R N E P x1 ap wh x8 h) (
n6 W R N E P x1 ap wh aa h)
def n8:N4:=fun W R N E P x1 x6 x8 ap h=>
n7 W R N E P x1 x8 ap x6 h
def n9:N4:=fun W R N E P x0 x1 x6 x8 h=>
aP x0 fun t7=>
ai (some 3) t7 fun t8=>
al (some false) (some 1) t8 h fun t9 _=>
gH Pg (some (9,87)) t9 x1 true h fun t11 _=>
dm t11 0 fun t13=>
dm t11 1 fun t14=>
n8 W R N E P x1 x6 x8 t14 h
def aQ:N3:=fun W R N E P x0 x1 x6 h=>
aP x0 fun t15=>
ai (some 2) t15 fun t16=>
al (some false) (some 1) t16 h fun t17 _=>
gH Pg (some (9,93)) t17 x1 true h fun t19 _=>
dm t19 0 fun t21=>
dm t19 1 fun t22=>
bw (some [.int .i64 0,.int .i64 0]) 2 93 h fun t23 sV=>
aG (some 2) t23 t21 sV W fun vP=>
n9 W R N E P x0 x1 x6 t22 vP
def a_:N2:=fun W R N E P x0 x1 h=>
aP x0 fun t26=>
ai (some 1) t26 fun t27=>
al (some false) (some 1) t27 h fun t28 _=>
gH Pg (some (9,93)) t28 x1 true h fun t30 _=>
dm t30 0 fun t32=>
dm t30 1 fun t33=>
bw (some [.int .i64 0,.int .i64 0]) 2 93 h fun t34 oM=>
aG (some 2) t34 t32 oM W fun vM=>
aQ W R N E P x0 x1 t33 vM
def bc:N2:=fun W R N E P x0 x1 h=>
a_ W R N E P x0 x1 h
theorem aM{x0 x1:AV}{h:AH}{M:WK}{R:RK}(hp:bc (fun id=>M id\/h.next<=id) (aJ Pg [.tmp 4] R) (aJ Pg [.tmp 4] R) (fun _ _ _=>False) (fun v h=>R (.cg v) h) x0 x1 h):aE Pg 84 [x0,x1] h M R:=
 fin (n:=50) (pl:=[(4,⟨[(none,(fr 0 2)),(some (1,false),(fr 2 1)),(none,(fr 3 2)),(some (4,false),(fr 5 1)),(none,(fr 6 2)),(some (7,false),(fr 8 3)),(none,(fr 11 2))],false,[],[]⟩)]) (rs:=[.tmp 4]) (L:=rs) (fun c=>(a2 bc 0 1 c)) Try.mixed Try.func84 (fun c=>
(sq (a2 bc 0 1 c)
(sq (a2 a_ 0 1 c)
(sq (a3 aQ 0 1 6 c)
(sq (a4 n9 0 1 6 8 c)
(sn
(sm (a1 n1 4 c))
(gr (gn (a4 n8 1 6 8 10 c) (gx (a4 n7 1 8 10 39 c) (gn (a4 n6 1 10 39 40 c) (gx (a3 n5 1 10 42 c) (gn (a3 n4 1 42 43 c) (gx (a2 n3 1 45 c) (gl (a2 n2 45 48 c))))))))))))))) hp
attribute [simp] n1 n2 n3 n4 n5 n6 n7 n8 n9 aQ a_ bc
end uq
namespace df
abbrev rs:List Nat:=[8]
def n1:N0:=fun _ R _ _ _ h=>
R [(.sc (.int .i64 0))] h
def n2:N2:=fun W R _ _ P x0 x5 h=>
al (some true) (some 6) x5 h fun t1 _=>
aP x0 fun t3=>
ai (some 1) t3 fun t4=>
al (some false) (some 1) t4 h fun t5 _=>
aP x0 fun t7=>
ai (some 5) t7 fun t8=>
ai (some 0) t8 fun t9=>
aC Pg W 60 [x0,t1,t5,t9,(.sc (.int .i64 64))] h (fun t10 nU=>
R [t10] nU) P
def n3:N2:=fun W R _ _ P x0 x5 h=>
al (some true) (some 6) x5 h fun t12 _=>
aP x0 fun t14=>
ai (some 2) t14 fun t15=>
al (some false) (some 1) t15 h fun t16 _=>
aP x0 fun t18=>
ai (some 5) t18 fun t19=>
ai (some 1) t19 fun t20=>
aC Pg W 60 [x0,t12,t16,t20,(.sc (.int .i64 64))] h (fun t21 uf=>
R [t21] uf) P
def n4:N3:=fun W R _ _ P x0 x2 x5 h=>
al (some true) (some 6) x5 h fun t23 _=>
aC Pg W 61 [x0,t23,x2] h (fun t25 mS=>
R [t25] mS) P
def n5:N0:=fun _ R _ _ _ h=>
R [(.sc (.int .i64 112))] h
def n6:N1:=fun W R N E P jZ h=>
aH jZ (
n5 W R N E P h) (
n1 W R N E P h)
def n7:N1:=fun W R N E P x5 h=>
ai (some 3) x5 fun t27=>
al (some false) (some 1) t27 h fun t28 _=>
ah Pg .lss 3 true t28 (.sc (.int .i64 0)) fun t30=>
n6 W R N E P t30 h
def n8:N0:=fun _ R _ _ _ h=>
R [(.sc (.int .i64 112))] h
def n9:N1:=fun W R N E P mO h=>
aH mO (
n8 W R N E P h) (
n1 W R N E P h)
def aQ:N2:=fun W R N E P gf nK h=>
aV gf (.sc (.bool true)) nK fun t31=>
n9 W R N E P t31 h
def a_:N3:=fun W R N E P gf rq oq h=>
bF false gf (
aV rq oq (.sc (.bool false)) fun t32=>
aQ W R N E P gf t32 h) (
aQ W R N E P gf aa h)
def bc:N4:=fun W R N E P x5 x9 gf rq h=>
bF true rq (
ai (some 3) x5 fun t33=>
al (some false) (some 1) t33 h fun t34 _=>
ai (some 1) x9 fun t36=>
al (some false) (some 1) t36 h fun t37 _=>
ah Pg .shl 3 true (.sc (.int .i64 1)) t37 fun t39=>
ah Pg .geq 3 false t34 t39 fun t40=>
a_ W R N E P gf rq t40 h) (
a_ W R N E P gf rq aa h)
def bt:N3:=fun W R N E P x5 x9 gf h=>
bF false gf (
ai (some 1) x9 fun t41=>
al (some false) (some 1) t41 h fun t42 _=>
ah Pg .lss 3 true t42 (.sc (.int .i64 63)) fun t44=>
bc W R N E P x5 x9 gf t44 h) (
bc W R N E P x5 x9 gf aa h)
def bD:N2:=fun W R N E P x5 x9 h=>
ai (some 3) x5 fun t45=>
al (some false) (some 1) t45 h fun t46 _=>
ah Pg .lss 3 true t46 (.sc (.int .i64 0)) fun t48=>
bt W R N E P x5 x9 t48 h
def bC:N0:=fun _ R _ _ _ h=>
R [(.sc (.int .i64 110))] h
def bz:N3:=fun W R N E P x5 x9 pR h=>
aH pR (
bC W R N E P h) (
bD W R N E P x5 x9 h)
def bH:N3:=fun W R N E P x5 x9 ap h=>
im .not ap fun t49=>
bz W R N E P x5 x9 t49 h
def bO:N2:=fun W R N E P x0 x5 h=>
aP x0 fun t50=>
ai (some 2) t50 fun t51=>
al (some false) (some 1) t51 h fun t52 _=>
ai (some 1) x5 fun t54=>
al (some false) (some 1) t54 h fun t55 _=>
gH Pg (some (9,93)) t52 t55 true h fun t57 _=>
dm t57 0 fun t59=>
dm t57 1 fun t60=>
bw (some [.int .i64 0,.int .i64 0]) 2 93 h fun t61 FI=>
aG (some 2) t61 t59 FI W fun FH=>
bH W R N E P x5 t61 t60 FH
def bQ:N3:=fun W R _ _ P x0 x3 x5 h=>
al (some true) (some 6) x5 h fun t64 _=>
aC Pg W 62 [x0,t64,x3] h (fun t66 La=>
R [t66] La) P
def b_:N2:=fun W R _ _ P x0 x5 h=>
aP x0 fun t68=>
ai (some 2) t68 fun t69=>
al (some false) (some 1) t69 h fun t70 _=>
ai (some 2) x5 fun t72=>
al (some false) (some 1) t72 h fun t73 _=>
br (some (2,none)) t73 (.sc (.int .i64 1)) fun t75=>
al (some true) (some 2) t75 h fun t76 _=>
aC Pg W 63 [t70,t76] h (fun t78 Vg=>
R [t78] Vg) P
def cp:N1:=fun _ R _ _ _ aq h=>
R [aq] h
def bW:N4:=fun W R N E P x0 x5 aq Ml h=>
aH Ml (
cp W R N E P aq h) (
b_ W R N E P x0 x5 h)
def cb:N3:=fun W R N E P x0 x5 aq h=>
ah Pg .neq 30 true aq (.sc (.int .i64 0)) fun t80=>
bW W R N E P x0 x5 aq t80 h
def cn:N2:=fun W R N E P x0 x5 h=>
aP x0 fun t81=>
ai (some 1) t81 fun t82=>
al (some false) (some 1) t82 h fun t83 _=>
ai (some 2) x5 fun t85=>
al (some false) (some 1) t85 h fun t86 _=>
br (some (2,none)) t86 (.sc (.int .i64 0)) fun t88=>
al (some true) (some 2) t88 h fun t89 _=>
aC Pg W 63 [t83,t89] h (fun t91 Vc=>
cb W R N E P x0 x5 t91 Vc) P
def cj:N0:=fun _ R _ _ _ h=>
R [(.sc (.int .i64 111))] h
def cl:N3:=fun W R N E P x0 x5 D_ h=>
aH D_ (
cj W R N E P h) (
cn W R N E P x0 x5 h)
def bV:N2:=fun W R N E P x0 x5 h=>
ai (some 2) x5 fun t93=>
al (some false) (some 1) t93 h fun t94 _=>
(ba t94=false)/\bK t94 fun t96=>
ah Pg .neq 3 true t96 (.sc (.int .i64 2)) fun t97=>
cl W R N E P x0 x5 t97 h
def cy:N2:=fun W R _ _ P x0 x5 h=>
aP x0 fun t98=>
ai (some 1) t98 fun t99=>
al (some false) (some 1) t99 h fun t100 _=>
ai (some 2) x5 fun t102=>
al (some false) (some 1) t102 h fun t103 _=>
br (some (2,none)) t103 (.sc (.int .i64 0)) fun t105=>
al (some true) (some 2) t105 h fun t106 _=>
aC Pg W 63 [t100,t106] h (fun t108 NL=>
R [t108] NL) P
def cz:N0:=fun _ R _ _ _ h=>
R [(.sc (.int .i64 111))] h
def cK:N3:=fun W R N E P x0 x5 zj h=>
aH zj (
cz W R N E P h) (
cy W R N E P x0 x5 h)
def da:N2:=fun W R N E P x0 x5 h=>
ai (some 2) x5 fun t110=>
al (some false) (some 1) t110 h fun t111 _=>
(ba t111=false)/\bK t111 fun t113=>
ah Pg .neq 3 true t113 (.sc (.int .i64 1)) fun t114=>
cK W R N E P x0 x5 t114 h
def cT:N3:=fun W R N E P x0 x5 Zp h=>
aH Zp (
da W R N E P x0 x5 h) (
n1 W R N E P h)
def dx:N3:=fun W R N E P x0 x5 bg h=>
ah Pg .eql 9 true bg (.sc (.string ⟨#[114,101,115,101,116]⟩)) fun t115=>
cT W R N E P x0 x5 t115 h
def dW:N4:=fun W R N E P x0 x5 bg v8 h=>
aH v8 (
bV W R N E P x0 x5 h) (
dx W R N E P x0 x5 bg h)
def dT:N3:=fun W R N E P x0 x5 bg h=>
ah Pg .eql 9 true bg (.sc (.string ⟨#[109,101,97,115,117,114,101]⟩)) fun t116=>
dW W R N E P x0 x5 bg t116 h
def dV:N5:=fun W R N E P x0 x3 x5 bg pQ h=>
aH pQ (
bQ W R N E P x0 x3 x5 h) (
dT W R N E P x0 x5 bg h)
def ed:N4:=fun W R N E P x0 x3 x5 bg h=>
ah Pg .eql 9 true bg (.sc (.string ⟨#[117,115,101]⟩)) fun t117=>
dV W R N E P x0 x3 x5 bg t117 h
def eJ:N5:=fun W R N E P x0 x3 x5 bg ot h=>
aH ot (
bO W R N E P x0 x5 h) (
ed W R N E P x0 x3 x5 bg h)
def dF:N4:=fun W R N E P x0 x3 x5 bg h=>
ah Pg .eql 9 true bg (.sc (.string ⟨#[105,102]⟩)) fun t118=>
eJ W R N E P x0 x3 x5 bg t118 h
def d_:N5:=fun W R N E P x0 x3 x5 bg Ju h=>
aH Ju (
n7 W R N E P x5 h) (
dF W R N E P x0 x3 x5 bg h)
def dL:N4:=fun W R N E P x0 x3 x5 bg h=>
ah Pg .eql 9 true bg (.sc (.string ⟨#[114,101,112,101,97,116]⟩)) fun t119=>
d_ W R N E P x0 x3 x5 bg t119 h
def eC:N6:=fun W R N E P x0 x2 x3 x5 bg Ee h=>
aH Ee (
n4 W R N E P x0 x2 x5 h) (
dL W R N E P x0 x3 x5 bg h)
def eu:N5:=fun W R N E P x0 x2 x3 x5 bg h=>
ah Pg .eql 9 true bg (.sc (.string ⟨#[103,97,116,101]⟩)) fun t120=>
eC W R N E P x0 x2 x3 x5 bg t120 h
def dO:N6:=fun W R N E P x0 x2 x3 x5 bg wk h=>
aH wk (
n3 W R N E P x0 x5 h) (
eu W R N E P x0 x2 x3 x5 bg h)
def e_:N5:=fun W R N E P x0 x2 x3 x5 bg h=>
ah Pg .eql 9 true bg (.sc (.string ⟨#[98,105,116,115]⟩)) fun t121=>
dO W R N E P x0 x2 x3 x5 bg t121 h
def fg:N6:=fun W R N E P x0 x2 x3 x5 bg aY h=>
aH aY (
n2 W R N E P x0 x5 h) (
e_ W R N E P x0 x2 x3 x5 bg h)
def hG:N5:=fun W R N E P x0 x2 x3 x5 bg h=>
ah Pg .eql 9 true bg (.sc (.string ⟨#[113,117,98,105,116,115]⟩)) fun t122=>
fg W R N E P x0 x2 x3 x5 bg t122 h
def gg:N4:=fun W R N E P x0 x2 x3 x5 h=>
ai (some 0) x5 fun t123=>
al (some false) (some 1) t123 h fun t124 _=>
hG W R N E P x0 x2 x3 x5 t124 h
def fq:N4:=fun W R N E P x0 x1 x2 x3 h=>
eI 6 42 x1 h fun t126 NI=>
gg W R N E P x0 x2 x3 t126 NI
theorem aM{x0 x1 x2 x3:AV}{h:AH}{M:WK}{R:RK}(hp:fq (fun id=>M id\/h.next<=id) (aJ Pg [.tmp 8] R) (aJ Pg [.tmp 8] R) (fun _ _ _=>False) (fun v h=>R (.cg v) h) x0 x1 x2 x3 h):aE Pg 39 [x0,x1,x2,x3] h M R:=
 fin (n:=129) (pl:=[(3,⟨[(none,(fr 0 12))],false,[],[]⟩),(5,⟨[(none,(fr 0 12))],false,[],[]⟩),(12,⟨[(none,(fr 0 13))],false,[],[]⟩),(15,⟨[(none,(fr 0 4)),(some (3,false),(fr 4 4)),(some (7,true),(fr 8 6)),(some (3,false),(fr 14 1)),(none,(fr 15 1))],false,[],[]⟩),(22,⟨[(none,(fr 0 10))],false,[],[]⟩),(25,⟨[(none,(fr 0 10))],false,[],[]⟩),(29,⟨[(none,(fr 0 10))],false,[],[]⟩)]) (rs:=[.tmp 8]) (L:=rs) (fun c=>(a4 fq 0 1 2 3 c)) Try.mixed Try.func39 (fun c=>
(sq (a4 fq 0 1 2 3 c)
(sn
(sl (a0 n1 c))
(sq (a4 gg 0 2 3 5 c)
(bk 0 (sq (a5 hG 0 2 3 5 13 c)
(cd (a6 fg 0 2 3 5 13 14 c) (sl (a2 n2 0 5 c)) (sq (a5 e_ 0 2 3 5 13 c)
(cd (a6 dO 0 2 3 5 13 27 c) (sl (a2 n3 0 5 c)) (sq (a5 eu 0 2 3 5 13 c)
(cd (a6 eC 0 2 3 5 13 40 c) (sl (a3 n4 0 2 5 c)) (sq (a4 dL 0 3 5 13 c)
(cd (a5 d_ 0 3 5 13 46 c) (sq (a1 n7 5 c)
(cd (a1 n6 50 c) (sl (a0 n5 c)) tr)) (sq (a4 dF 0 3 5 13 c)
(cd (a5 eJ 0 3 5 13 51 c) (sq (a2 bO 0 5 c)
(sn
(sn
(cd (a1 n9 80 c) (sl (a0 n8 c)) tr)
(gr (gn (a2 bD 5 9 c) (gx (a3 bt 5 9 68 c) (gx (a4 bc 5 9 68 72 c) (gx (a3 a_ 68 72 78 c) (gl (a2 aQ 68 79 c))))))))
(sq (a3 bH 5 9 10 c)
(cd (a3 bz 5 9 64 c) (sl (a0 bC c)) tr)))) (sq (a4 ed 0 3 5 13 c)
(cd (a5 dV 0 3 5 13 81 c) (sl (a3 bQ 0 3 5 c)) (sq (a3 dT 0 5 13 c)
(cd (a4 dW 0 5 13 87 c) (sn
(sn
(sl (a2 b_ 0 5 c))
(sq (a2 cn 0 5 c)
(sq (a3 cb 0 5 11 c)
(cd (a4 bW 0 5 11 103 c) (sl (a1 cp 11 c)) tr))))
(sq (a2 bV 0 5 c)
(cd (a3 cl 0 5 92 c) (sl (a0 cj c)) tr))) (sq (a3 dx 0 5 13 c)
(cd (a3 cT 0 5 114 c) (sn
(sl (a2 cy 0 5 c))
(sq (a2 da 0 5 c)
(cd (a3 cK 0 5 119 c) (sl (a0 cz c)) tr))) tr))))))))))))))))))))) hp
attribute [simp] n1 n2 n3 n4 n5 n6 n7 n8 n9 aQ a_ bc bt bD bC bz bH bO bQ b_ cp bW cb cn cj cl bV cy cz cK da cT dx dW dT dV ed eJ dF d_ dL eC eu dO e_ fg hG gg fq
end df
end
section
open Go.Ab
namespace f_
abbrev rs:List Nat:=[10]
def n1:N0:=fun _ R _ _ _ h=>
R [(.sc (.int .i64 0))] h
def n2:N6:=fun _ _ N _ _ x0 x2 x3 x4 aq ax h=>
ai (some 4) ax fun t1=>
al (some false) (some 1) t1 h fun t2 _=>
ah Pg .add 3 true (.sc (.int .i64 1)) t2 fun t4=>
ah Pg .add 3 false aq t4 fun t5=>
N [x0,x2,x3,x4,t5] h
def n3:N7:=fun W R N E P x0 x2 x3 x4 aq ax cV h=>
aP cV fun t6=>
ai (some 2) t6 fun t7=>
al (some false) (some 1) t7 h fun t8 _=>
aP cV fun t10=>
ai (some 3) t10 fun t11=>
al (some false) (some 1) t11 h fun t12 _=>
aC Pg oY 40 [x0,t8,t12] h (fun t14 vR=>
aP cV fun t16=>
ai (some 5) t16 fun t17=>
aG (some 1) t17 t14 vR W fun vQ=>
n2 W R N E P x0 x2 x3 x4 aq ax vQ) P
def n4:N7:=fun W R N E P x0 x2 x3 x4 aq ax cV h=>
aP cV fun t19=>
ai (some 6) t19 fun t20=>
aG (some 1) t20 (.sc (.bool true)) h W fun yY=>
n3 W R N E P x0 x2 x3 x4 aq ax cV yY
def n5:N6:=fun W R N E P x0 x2 x3 x4 aq ax h=>
aP x0 fun t22=>
ai (some 3) t22 fun t23=>
al (some false) (some 1) t23 h fun t24 _=>
ai (some 1) ax fun t26=>
al (some false) (some 1) t26 h fun t27 _=>
gH Pg (some (9,87)) t24 t27 false h fun t29 _=>
n4 W R N E P x0 x2 x3 x4 aq ax t29 h
def n6:N7:=fun W R N E P x0 x2 x3 x4 aq ax ly h=>
aH ly (
n5 W R N E P x0 x2 x3 x4 aq ax h) (
n2 W R N E P x0 x2 x3 x4 aq ax h)
def n7:N6:=fun W R N E P x0 x2 x3 x4 aq ax h=>
ai (some 0) ax fun t31=>
al (some false) (some 1) t31 h fun t32 _=>
ah Pg .eql 9 true t32 (.sc (.string ⟨#[103,97,116,101]⟩)) fun t34=>
n6 W R N E P x0 x2 x3 x4 aq ax t34 h
def n8:N1:=fun _ R _ _ _ cW h=>
R [cW] h
def n9:N8:=fun W R N E P x0 x2 x3 x4 aq ax cW oq h=>
aH oq (
n8 W R N E P cW h) (
n7 W R N E P x0 x2 x3 x4 aq ax h)
def aQ:N7:=fun W R N E P x0 x2 x3 x4 aq ax cW h=>
ah Pg .neq 30 true cW (.sc (.int .i64 0)) fun t35=>
n9 W R N E P x0 x2 x3 x4 aq ax cW t35 h
def a_:N7:=fun W R N E P x0 x2 x3 x4 aq ax aL h=>
ah Pg .add 3 true aq (.sc (.int .i64 1)) fun t36=>
ah Pg .add 3 true aq (.sc (.int .i64 1)) fun t37=>
ai (some 4) ax fun t38=>
al (some false) (some 1) t38 h fun t39 _=>
ah Pg .add 3 false t37 t39 fun t41=>
ah Pg .add 3 true x3 (.sc (.int .i64 1)) fun t42=>
aC Pg W 21 [x0,t36,t41,t42,aL] h (fun t43 yW=>
aQ W R N E P x0 x2 x3 x4 aq ax t43 yW) P
def bc:N8:=fun W R N E P x0 x2 x3 x4 aq ax aL we h=>
aH we (
aP x0 fun t45=>
ai (some 3) t45 fun t46=>
al (some false) (some 1) t46 h fun t47 _=>
ai (some 1) ax fun t49=>
al (some false) (some 1) t49 h fun t50 _=>
gH Pg (some (9,87)) t47 t50 false h fun t52 _=>
a_ W R N E P x0 x2 x3 x4 aq ax t52 h) (
a_ W R N E P x0 x2 x3 x4 aq ax aL h)
def bt:N7:=fun W R N E P x0 x2 x3 x4 aq ax aL h=>
ai (some 0) ax fun t54=>
al (some false) (some 1) t54 h fun t55 _=>
ah Pg .eql 9 true t55 (.sc (.string ⟨#[103,97,116,101]⟩)) fun t57=>
bc W R N E P x0 x2 x3 x4 aq ax aL t57 h
def bD:N6:=fun W R N E P x0 x2 x3 x4 aq ax h=>
bt W R N E P x0 x2 x3 x4 aq ax x4 h
def bC:N1:=fun _ R _ _ _ aY h=>
R [aY] h
def bz:N8:=fun W R N E P x0 x2 x3 x4 aq ax aY wg h=>
aH wg (
bC W R N E P aY h) (
bD W R N E P x0 x2 x3 x4 aq ax h)
def bH:N7:=fun W R N E P x0 x2 x3 x4 aq ax aY h=>
ah Pg .neq 30 true aY (.sc (.int .i64 0)) fun t58=>
bz W R N E P x0 x2 x3 x4 aq ax aY t58 h
def bO:N6:=fun W R N E P x0 x2 x3 x4 aq ax h=>
al (some true) (some 6) ax h fun t59 _=>
aC Pg W 39 [x0,t59,aq,x4] h (fun t61 FI=>
bH W R N E P x0 x2 x3 x4 aq ax t61 FI) P
def bQ:N1:=fun _ R _ _ _ bg h=>
R [bg] h
def b_:N8:=fun W R N E P x0 x2 x3 x4 aq ax bg gE h=>
aH gE (
bQ W R N E P bg h) (
bO W R N E P x0 x2 x3 x4 aq ax h)
def cp:N7:=fun W R N E P x0 x2 x3 x4 aq ax bg h=>
ah Pg .neq 30 true bg (.sc (.int .i64 0)) fun t63=>
b_ W R N E P x0 x2 x3 x4 aq ax bg t63 h
def bW:N6:=fun W R N E P x0 x2 x3 x4 aq ax h=>
al (some true) (some 6) ax h fun t64 _=>
ah Pg .sub 3 false x2 aq fun t66=>
ah Pg .sub 3 true t66 (.sc (.int .i64 1)) fun t67=>
aC Pg W 38 [x0,t64,t67,x3,x4] h (fun t68 FF=>
cp W R N E P x0 x2 x3 x4 aq ax t68 FF) P
def cb:N6:=fun W R N E P x0 x2 x3 x4 aq ax h=>
ai (some 5) ax fun t70=>
al (some false) (some 1) t70 h fun t71 _=>
aP x0 fun t73=>
ai (some 8) t73 fun t74=>
aG (some 1) t74 t71 h W fun FC=>
bW W R N E P x0 x2 x3 x4 aq ax FC
def cn:N5:=fun W R N E P x0 x2 x3 x4 aq h=>
aP x0 fun t76=>
ai (some 0) t76 fun t77=>
al (some false) (some 1) t77 h fun t78 _=>
br (some (6,none)) t78 aq fun t80=>
al (some true) (some 6) t80 h fun t81 _=>
bw (some [.string ⟨#[]⟩,.string ⟨#[]⟩,.slice none 0 0,.int .i64 0,.int .i64 0,.int .i64 0]) 6 42 h fun t83 FA=>
aG (some 6) t83 t81 FA W fun rP=>
cb W R N E P x0 x2 x3 x4 aq t83 rP
def cj:N6:=fun W R N E P x0 x2 x3 x4 aq dK h=>
aH dK (
cn W R N E P x0 x2 x3 x4 aq h) (
E 0 [] h)
def cl:N5:=fun W R N E P x0 x2 x3 x4 aq h=>
ah Pg .lss 3 false aq x2 fun t86=>
cj W R N E P x0 x2 x3 x4 aq t86 h
def cB:GK:=fun W R N E P N' vs h=>cl W R N' (fun(i:Nat) (vs:List AV) (h:AH)=>if i=0 then n1 W R N E P h else E i vs h) P (vs.getD 0 aa) (vs.getD 1 aa) (vs.getD 2 aa) (vs.getD 3 aa) (vs.getD 4 aa) h
def bV:N5:=fun W R N E P x0 x2 x3 x4 aq h=>
cY (cB W R N E P) [x0,x2,x3,x4,aq] h
def cy:N5:=fun W R N E P x0 x1 x2 x3 x4 h=>
bV W R N E P x0 x2 x3 x4 x1 h
def cz:N5:=fun W R N E P x0 x1 x2 x3 x4 h=>
cy W R N E P x0 x1 x2 x3 x4 h
theorem aM{x0 x1 x2 x3 x4:AV}{h:AH}{M:WK}{R:RK}(hp:cz (fun id=>M id\/h.next<=id) (aJ Pg [.tmp 10] R) (aJ Pg [.tmp 10] R) (fun _ _ _=>False) (fun v h=>R (.cg v) h) x0 x1 x2 x3 x4 h):aE Pg 21 [x0,x1,x2,x3,x4] h M R:=
 fin (n:=111) (pl:=[(13,⟨[(none,(fr 0 8))],false,[],[]⟩),(18,⟨[(none,(fr 0 8))],false,[],[]⟩),(20,⟨[(none,(fr 0 14))],false,[],[10]⟩)]) (rs:=[.tmp 10]) (L:=rs) (fun c=>(a5 cz 0 1 2 3 4 c)) Try.mixed Try.func21 (fun c=>
(sq (a5 cz 0 1 2 3 4 c)
(sn
(sl (a0 n1 c))
(sq (a5 cy 0 1 2 3 4 c)
(bk 0 (lp [0,2,3,4,11] rs [(0,[])] (a5 bV 0 2 3 4 11 c) cB (fun i vs h=>if i=0 then n1 c.W c.R c.N c.E c.P h else c.E i vs h) (.b (.t .o)) fun c=>
(sn
(bk 1 (sq (a5 cn 0 2 3 4 11 c)
(sq (a6 cb 0 2 3 4 11 12 c)
(sn
(sn
(sq (a6 bD 0 2 3 4 11 12 c)
(sn
(sn
(sn
(sm (a6 n2 0 2 3 4 11 12 c))
(sq (a6 n7 0 2 3 4 11 12 c)
(cd (a7 n6 0 2 3 4 11 12 82 c) (sq (a6 n5 0 2 3 4 11 12 c)
(sq (a7 n4 0 2 3 4 11 12 17 c)
(gr (gl (a7 n3 0 2 3 4 11 12 17 c))))) tr)))
(sq (a7 a_ 0 2 3 4 11 12 15 c)
(sq (a7 aQ 0 2 3 4 11 12 16 c)
(cd (a8 n9 0 2 3 4 11 12 16 78 c) (sl (a1 n8 16 c)) tr))))
(sq (a7 bt 0 2 3 4 11 12 15 c)
(cd (a8 bc 0 2 3 4 11 12 15 57 c) tr tr))))
(sq (a6 bO 0 2 3 4 11 12 c)
(sq (a7 bH 0 2 3 4 11 12 14 c)
(cd (a8 bz 0 2 3 4 11 12 14 52 c) (sl (a1 bC 14 c)) tr))))
(sq (a6 bW 0 2 3 4 11 12 c)
(sq (a7 cp 0 2 3 4 11 12 13 c)
(cd (a8 b_ 0 2 3 4 11 12 13 44 c) (sl (a1 bQ 13 c)) tr)))))))
(sq (a5 cl 0 2 3 4 11 c)
(cd (a6 cj 0 2 3 4 11 21 c) tr tr))))))))) hp
attribute [simp] n1 n2 n3 n4 n5 n6 n7 n8 n9 aQ a_ bc bt bD bC bz bH bO bQ b_ cp bW cb cn cj cl cy cz
end f_
namespace kq
abbrev rs:List Nat:=[6]
def n1:N1:=fun _ R _ _ _ x7 h=>
R [x7] h
def n2:N4:=fun _ _ N _ _ x0 x2 x7 x8 h=>
aP x0 fun t1=>
ai (some 0) t1 fun t2=>
al (some false) (some 1) t2 h fun t3 _=>
br (some (6,none)) t3 x8 fun t5=>
ai (some 4) t5 fun t6=>
al (some false) (some 1) t6 h fun t7 _=>
ah Pg .add 3 true (.sc (.int .i64 1)) t7 fun t9=>
ah Pg .add 3 false x8 t9 fun t10=>
N [x0,x2,x7,t10] h
def n3:N5:=fun W R N E P x0 x2 x7 x8 ap h=>
ah Pg .add 3 false x7 ap fun t11=>
qy true t11 (.sc (.int .i64 4097)) fun t12=>
n2 W R N E P x0 x2 t12 x8 h
def n4:N7:=fun W R N E P x0 x2 x7 x8 x9 ap fJ h=>
aH fJ (
ai (some 3) x9 fun t13=>
al (some false) (some 1) t13 h fun t14 _=>
qy true t14 (.sc (.int .i64 4097)) fun t16=>
ah Pg .mul 3 false t16 ap fun t17=>
n3 W R N E P x0 x2 x7 x8 t17 h) (
n3 W R N E P x0 x2 x7 x8 ap h)
def n5:N6:=fun W R N E P x0 x2 x7 x8 x9 ap h=>
ah Pg .gtr 3 true ap (.sc (.int .i64 0)) fun t18=>
n4 W R N E P x0 x2 x7 x8 x9 ap t18 h
def n6:N5:=fun W R N E P x0 x2 x7 x8 x9 h=>
ah Pg .add 3 true x8 (.sc (.int .i64 1)) fun t19=>
ah Pg .add 3 true x8 (.sc (.int .i64 1)) fun t20=>
ai (some 4) x9 fun t21=>
al (some false) (some 1) t21 h fun t22 _=>
ah Pg .add 3 false t20 t22 fun t24=>
aC Pg W 40 [x0,t19,t24] h (fun t25 mS=>
n5 W R N E P x0 x2 x7 x8 x9 t25 mS) P
def n7:N7:=fun W R N E P x0 x2 x7 x8 ap aq pR h=>
aH pR (
aP aq fun t27=>
ai (some 5) t27 fun t28=>
al (some false) (some 1) t28 h fun t29 _=>
n3 W R N E P x0 x2 x7 x8 t29 h) (
n3 W R N E P x0 x2 x7 x8 ap h)
def n8:N7:=fun W R N E P x0 x2 x7 x8 ap aq ax h=>
n7 W R N E P x0 x2 x7 x8 ap aq ax h
def n9:N6:=fun W R N E P x0 x2 x7 x8 x9 ap h=>
aP x0 fun t31=>
ai (some 3) t31 fun t32=>
al (some false) (some 1) t32 h fun t33 _=>
ai (some 1) x9 fun t35=>
al (some false) (some 1) t35 h fun t36 _=>
gH Pg (some (9,87)) t33 t36 true h fun t38 _=>
dm t38 0 fun t40=>
dm t38 1 fun t41=>
n8 W R N E P x0 x2 x7 x8 ap t40 t41 h
def aQ:N7:=fun W R N E P x0 x2 x7 x8 x9 ap kf h=>
aH kf (
n6 W R N E P x0 x2 x7 x8 x9 h) (
n9 W R N E P x0 x2 x7 x8 x9 ap h)
def a_:N6:=fun W R N E P x0 x2 x7 x8 x9 ap h=>
ai (some 0) x9 fun t42=>
al (some false) (some 1) t42 h fun t43 _=>
ah Pg .eql 9 true t43 (.sc (.string ⟨#[114,101,112,101,97,116]⟩)) fun t45=>
aQ W R N E P x0 x2 x7 x8 x9 ap t45 h
def bc:N5:=fun W R N E P x0 x2 x7 x8 x9 h=>
a_ W R N E P x0 x2 x7 x8 x9 (.sc (.int .i64 1)) h
def bt:N4:=fun W R N E P x0 x2 x7 x8 h=>
aP x0 fun t46=>
ai (some 0) t46 fun t47=>
al (some false) (some 1) t47 h fun t48 _=>
br (some (6,none)) t48 x8 fun t50=>
al (some true) (some 6) t50 h fun t51 _=>
bw (some [.string ⟨#[]⟩,.string ⟨#[]⟩,.slice none 0 0,.int .i64 0,.int .i64 0,.int .i64 0]) 6 42 h fun t53 Hw=>
aG (some 6) t53 t51 Hw W fun ua=>
bc W R N E P x0 x2 x7 x8 t53 ua
def bD:N5:=fun W R N E P x0 x2 x7 x8 cW h=>
aH cW (
bt W R N E P x0 x2 x7 x8 h) (
E 0 [x7] h)
def bC:N4:=fun W R N E P x0 x2 x7 x8 h=>
ah Pg .lss 3 false x8 x2 fun t56=>
bD W R N E P x0 x2 x7 x8 t56 h
def cB:GK:=fun W R N E P N' vs h=>bC W R N' (fun(i:Nat) (vs:List AV) (h:AH)=>if i=0 then n1 W R N E P (vs.getD 0 aa) h else E i vs h) P (vs.getD 0 aa) (vs.getD 1 aa) (vs.getD 2 aa) (vs.getD 3 aa) h
def bz:N4:=fun W R N E P x0 x2 x7 x8 h=>
cY (cB W R N E P) [x0,x2,x7,x8] h
def bH:N4:=fun W R N E P x0 x1 x2 x7 h=>
bz W R N E P x0 x2 x7 x1 h
def bO:N3:=fun W R N E P x0 x1 x2 h=>
bH W R N E P x0 x1 x2 (.sc (.int .i64 0)) h
def bQ:N3:=fun W R N E P x0 x1 x2 h=>
bO W R N E P x0 x1 x2 h
theorem aM{x0 x1 x2:AV}{h:AH}{M:WK}{R:RK}(hp:bQ (fun id=>M id\/h.next<=id) (aJ Pg [.tmp 6] R) (aJ Pg [.tmp 6] R) (fun _ _ _=>False) (fun v h=>R (.cg v) h) x0 x1 x2 h):aE Pg 40 [x0,x1,x2] h M R:=
 fin (n:=74) (pl:=[(11,⟨[(none,(fr 0 12))],false,[],[]⟩)]) (rs:=[.tmp 6]) (L:=rs) (fun c=>(a3 bQ 0 1 2 c)) Try.mixed Try.func40 (fun c=>
(sq (a3 bQ 0 1 2 c)
(sq (a3 bO 0 1 2 c)
(sn
(sl (a1 n1 7 c))
(sq (a4 bH 0 1 2 7 c)
(bk 0 (lp [0,2,7,8] rs [(0,[7])] (a4 bz 0 2 7 8 c) cB (fun i vs h=>if i=0 then n1 c.W c.R c.N c.E c.P (vs.getD 0 aa) h else c.E i vs h) (.b (.t .o)) fun c=>
(sn
(sn
(sm (a4 n2 0 2 7 8 c))
(bk 1 (sq (a4 bt 0 2 7 8 c)
(sq (a5 bc 0 2 7 8 9 c)
(sn
(sm (a5 n3 0 2 7 8 10 c))
(sq (a6 a_ 0 2 7 8 9 10 c)
(cd (a7 aQ 0 2 7 8 9 10 37 c) (sq (a5 n6 0 2 7 8 9 c)
(sq (a6 n5 0 2 7 8 9 10 c)
(cd (a7 n4 0 2 7 8 9 10 48 c) tr tr))) (sq (a6 n9 0 2 7 8 9 10 c)
(sq (a7 n8 0 2 7 8 10 11 12 c)
(cd (a7 n7 0 2 7 8 10 11 64 c) tr tr))))))))))
(sq (a4 bC 0 2 7 8 c)
(cd (a5 bD 0 2 7 8 16 c) tr tr)))))))))) hp
attribute [simp] n1 n2 n3 n4 n5 n6 n7 n8 n9 aQ a_ bc bt bD bC bH bO bQ
end kq
namespace ma
abbrev rs:List Nat:=[10]
def n1:N5:=fun W R _ _ P x0 x4 x8 aq bg h=>
aP aq fun t1=>
ai (some 2) t1 fun t2=>
al (some false) (some 1) t2 h fun t3 _=>
aP aq fun t5=>
ai (some 3) t5 fun t6=>
al (some false) (some 1) t6 h fun t7 _=>
al (some true) (some 3) x8 h fun t9 _=>
aC Pg W 64 [x0,t3,t7,bg,t9,x4] h (fun t11 vS=>
R [t11] vS) P
def n2:N9:=fun _ _ N _ _ x0 x2 x4 x8 aq bg mP gE gL h=>
ah Pg .add 3 true gL (.sc (.int .i64 1)) fun t13=>
N [x0,x2,x4,x8,aq,bg,mP,gE,t13] h
def n3:qN:=fun W R N E P x0 x2 x4 x8 aq bg aY aL mP gE gL h=>
br (some (1,none)) x2 aY fun t14=>
al (some false) (some 1) t14 h fun t15 _=>
eH Pg (some (9,3)) bg aL t15 h W fun qK=>
n2 W R N E P x0 x2 x4 x8 aq bg mP gE gL qK
def n4:N9:=fun W R N E P x0 x2 x4 x8 aq bg mP gE gL h=>
br (some (1,none)) mP gL fun t18=>
al (some false) (some 1) t18 h fun t19 _=>
n3 W R N E P x0 x2 x4 x8 aq bg gL t19 mP gE gL h
def n5:km:=fun W R N E P x0 x2 x4 x8 aq bg mP gE gL Ju h=>
aH Ju (
n4 W R N E P x0 x2 x4 x8 aq bg mP gE gL h) (
E 0 [x0,x4,x8,aq,bg] h)
def n6:N9:=fun W R N E P x0 x2 x4 x8 aq bg mP gE gL h=>
ah Pg .lss 3 false gL gE fun t21=>
n5 W R N E P x0 x2 x4 x8 aq bg mP gE gL t21 h
def cB:GK:=fun W R N E P N' vs h=>n6 W R N' (fun(i:Nat) (vs:List AV) (h:AH)=>if i=0 then n1 W R N E P (vs.getD 0 aa) (vs.getD 1 aa) (vs.getD 2 aa) (vs.getD 3 aa) (vs.getD 4 aa) h else E i vs h) P (vs.getD 0 aa) (vs.getD 1 aa) (vs.getD 2 aa) (vs.getD 3 aa) (vs.getD 4 aa) (vs.getD 5 aa) (vs.getD 6 aa) (vs.getD 7 aa) (vs.getD 8 aa) h
def n7:N9:=fun W R N E P x0 x2 x4 x8 aq bg mP gE gL h=>
cY (cB W R N E P) [x0,x2,x4,x8,aq,bg,mP,gE,gL] h
def n8:N6:=fun W R N E P x0 x2 x4 x8 aq bg h=>
aP aq fun t22=>
ai (some 1) t22 fun t23=>
al (some false) (some 1) t23 h fun t24 _=>
(ba t24=false)/\bK t24 fun t26=>
n7 W R N E P x0 x2 x4 x8 aq bg t24 t26 (.sc (.int .i64 0)) h
def n9:N5:=fun W R N E P x0 x2 x4 x8 aq h=>
qw 120 h fun t27 qI=>
n8 W R N E P x0 x2 x4 x8 aq t27 qI
def aQ:N0:=fun _ R _ _ _ h=>
R [(.sc (.bool true))] h
def a_:N6:=fun W R N E P x0 x2 x4 x8 aq wj h=>
aH wj (
aQ W R N E P h) (
n9 W R N E P x0 x2 x4 x8 aq h)
def bc:N5:=fun W R N E P x0 x2 x4 x8 aq h=>
aP aq fun t29=>
ai (some 5) t29 fun t30=>
al (some false) (some 1) t30 h fun t31 _=>
ah Pg .eql 3 true t31 (.sc (.int .i64 0)) fun t33=>
a_ W R N E P x0 x2 x4 x8 aq t33 h
def bt:N5:=fun W R _ _ P x0 x1 x2 x4 x8 h=>
cR (some ([.int .i64 0,.string ⟨#[]⟩,.slice none 0 0,.int .i64 0,.bool false,.int .u64 0,.int .u64 0],.inl [(0,1),(1,1),(2,1),(3,1),(4,1),(5,1),(6,1)])) [(0,(.sc (.int .i64 1))),(1,x1),(2,x2)] fun t34=>
al (some true) (some 3) x8 h fun t35 _=>
aC Pg W 43 [x0,t34,t35,x4] h (fun t37 Hy=>
R [t37] Hy) P
def bD:N7:=fun W R N E P x0 x1 x2 x4 x8 aq Aw h=>
aH Aw (
bt W R N E P x0 x1 x2 x4 x8 h) (
bc W R N E P x0 x2 x4 x8 aq h)
def bC:N7:=fun W R N E P x0 x1 x2 x4 x8 aq ax h=>
im .not ax fun t39=>
bD W R N E P x0 x1 x2 x4 x8 aq t39 h
def bz:N5:=fun W R N E P x0 x1 x2 x4 x8 h=>
aP x0 fun t40=>
ai (some 3) t40 fun t41=>
al (some false) (some 1) t41 h fun t42 _=>
gH Pg (some (9,87)) t42 x1 true h fun t44 _=>
dm t44 0 fun t46=>
dm t44 1 fun t47=>
bC W R N E P x0 x1 x2 x4 x8 t46 t47 h
def bH:N5:=fun W R N E P x0 x1 x2 x3 x4 h=>
eI 3 69 x3 h fun t48 yU=>
bz W R N E P x0 x1 x2 x4 t48 yU
theorem aM{x0 x1 x2 x3 x4:AV}{h:AH}{M:WK}{R:RK}(hp:bH (fun id=>M id\/h.next<=id) (aJ Pg [.tmp 10] R) (aJ Pg [.tmp 10] R) (fun _ _ _=>False) (fun v h=>R (.cg v) h) x0 x1 x2 x3 x4 h):aE Pg 41 [x0,x1,x2,x3,x4] h M R:=
 fin (n:=70) (pl:=[(12,⟨[(none,(fr 0 14))],false,[],[]⟩)]) (rs:=[.tmp 10]) (L:=rs) (fun c=>(a5 bH 0 1 2 3 4 c)) Try.mixed Try.func41 (fun c=>
(sq (a5 bH 0 1 2 3 4 c)
(sq (a5 bz 0 1 2 4 8 c)
(sn
(sn
(sq (a5 n9 0 2 4 8 11 c)
(sn
(sl (a5 n1 0 4 8 11 13 c))
(sq (a6 n8 0 2 4 8 11 13 c)
(bk 0 (lp [0,2,4,8,11,13,43,44,45] rs [(0,[0,4,8,11,13])] (a9 n7 0 2 4 8 11 13 43 44 45 c) cB (fun i vs h=>if i=0 then n1 c.W c.R c.N c.E c.P (vs.getD 0 aa) (vs.getD 1 aa) (vs.getD 2 aa) (vs.getD 3 aa) (vs.getD 4 aa) h else c.E i vs h) (.b (.t .o)) fun c=>
(sq (a9 n6 0 2 4 8 11 13 43 44 45 c)
(sn
(sn
(sm (a9 n2 0 2 4 8 11 13 43 44 45 c))
(bk 1 (sq (a9 n4 0 2 4 8 11 13 43 44 45 c)
(sm (rW n3 0 2 4 8 11 13 14 15 43 44 45 c)))))
(cd (kE n5 0 2 4 8 11 13 43 44 45 46 c) tr tr))))))))
(sq (a5 bc 0 2 4 8 11 c)
(cd (a6 a_ 0 2 4 8 11 38 c) (sl (a0 aQ c)) tr)))
(sq (a7 bC 0 1 2 4 8 11 12 c)
(cd (a7 bD 0 1 2 4 8 11 26 c) (sl (a5 bt 0 1 2 4 8 c)) tr)))))) hp
attribute [simp] n1 n2 n3 n4 n5 n6 n8 n9 aQ a_ bc bt bD bC bz bH
end ma
namespace ti
abbrev rs:List Nat:=[4]
def n1:N1:=fun _ R _ _ _ x5 h=>
R [x5] h
def n2:N5:=fun _ _ N _ _ x0 x5 x8 x9 ap h=>
ah Pg .add 3 true ap (.sc (.int .i64 1)) fun t1=>
N [x0,x5,x8,x9,t1] h
def n3:N6:=fun W R N E P x0 x5 x7 x8 x9 ap h=>
aP x0 fun t2=>
ai (some 1) t2 fun t3=>
al (some false) (some 1) t3 h fun t4 _=>
ai (some 0) x7 fun t6=>
al (some false) (some 1) t6 h fun t7 _=>
gH Pg (some (9,93)) t4 t7 false h fun t9 _=>
ml (some (0,1,false)) t9 fun t11=>
ai (some 1) x7 fun t12=>
al (some false) (some 1) t12 h fun t13 _=>
ah Pg .add 3 false t11 t13 fun t15=>
dX (some (1,3,[.int .i64 0])) 1 [(0,t15)] h fun t16 qK=>
fu (some (1,8,3)) x5 t16 qK W fun t18 qJ=>
n2 W R N E P x0 t18 x8 x9 ap qJ
def n4:N5:=fun W R N E P x0 x5 x8 x9 ap h=>
br (some (2,none)) x8 ap fun t20=>
al (some true) (some 2) t20 h fun t21 _=>
bw (some [.string ⟨#[]⟩,.int .i64 0]) 2 44 h fun t23 sV=>
aG (some 2) t23 t21 sV W fun vP=>
n3 W R N E P x0 x5 t23 x8 x9 ap vP
def n5:N6:=fun W R N E P x0 x5 x8 x9 ap aq h=>
aH aq (
n4 W R N E P x0 x5 x8 x9 ap h) (
E 0 [x5] h)
def n6:N5:=fun W R N E P x0 x5 x8 x9 ap h=>
ah Pg .lss 3 false ap x9 fun t26=>
n5 W R N E P x0 x5 x8 x9 ap t26 h
def cB:GK:=fun W R N E P N' vs h=>n6 W R N' (fun(i:Nat) (vs:List AV) (h:AH)=>if i=0 then n1 W R N E P (vs.getD 0 aa) h else E i vs h) P (vs.getD 0 aa) (vs.getD 1 aa) (vs.getD 2 aa) (vs.getD 3 aa) (vs.getD 4 aa) h
def n7:N5:=fun W R N E P x0 x5 x8 x9 ap h=>
cY (cB W R N E P) [x0,x5,x8,x9,ap] h
def n8:N3:=fun W R N E P x0 x1 x5 h=>
(ba x1=false)/\bK x1 fun t27=>
n7 W R N E P x0 x5 x1 t27 (.sc (.int .i64 0)) h
def n9:N2:=fun W R N E P x0 x1 h=>
n8 W R N E P x0 x1 (.sc (.slice none 0 0)) h
def aQ:N2:=fun W R N E P x0 x1 h=>
n9 W R N E P x0 x1 h
theorem aM{x0 x1:AV}{h:AH}{M:WK}{R:RK}(hp:aQ (fun id=>M id\/h.next<=id) (aJ Pg [.tmp 4] R) (aJ Pg [.tmp 4] R) (fun _ _ _=>False) (fun v h=>R (.cg v) h) x0 x1 h):aE Pg 42 [x0,x1] h M R:=
 fin (n:=30) (pl:=[(5,⟨[(none,(fr 0 15))],false,[],[]⟩)]) (rs:=[.tmp 4]) (L:=rs) (fun c=>(a2 aQ 0 1 c)) Try.mixed Try.func42 (fun c=>
(sq (a2 aQ 0 1 c)
(sq (a2 n9 0 1 c)
(sn
(sl (a1 n1 5 c))
(sq (a3 n8 0 1 5 c)
(bk 0 (lp [0,5,8,9,10] rs [(0,[5])] (a5 n7 0 5 8 9 10 c) cB (fun i vs h=>if i=0 then n1 c.W c.R c.N c.E c.P (vs.getD 0 aa) h else c.E i vs h) (.b (.t .o)) fun c=>
(sq (a5 n6 0 5 8 9 10 c)
(sn
(sn
(sm (a5 n2 0 5 8 9 10 c))
(bk 1 (sq (a5 n4 0 5 8 9 10 c)
(sm (a6 n3 0 5 7 8 9 10 c)))))
(cd (a6 n5 0 5 8 9 10 11 c) tr tr)))))))))) hp
attribute [simp] n1 n2 n3 n4 n5 n6 n8 n9 aQ
end ti
namespace vY
abbrev rs:List Nat:=[8]
def n1:N0:=fun _ R _ _ _ h=>
R [(.sc (.bool true))] h
def n2:N2:=fun W R N E P x0 x3 h=>
aP x0 fun t1=>
ai (some 4) t1 fun t2=>
al (some false) (some 1) t2 h fun t3 _=>
dX (some (1,3,[.int .i64 0])) 1 [(0,x3)] h fun t5 h6=>
fu (some (1,8,3)) t3 t5 h6 W fun t7 h8=>
aP x0 fun t9=>
ai (some 4) t9 fun t10=>
aG (some 1) t10 t7 h8 W fun nU=>
n1 W R N E P nU
def n3:N3:=fun W R N E P x0 x3 x5 h=>
aP x0 fun t12=>
ai (some 5) t12 fun t13=>
ai (some 2) t13 fun t14=>
al (some false) (some 1) t14 h fun t15 _=>
al (some true) (some 7) x5 h fun t17 _=>
dX (some (7,49,[.int .i64 0,.string ⟨#[]⟩,.slice none 0 0,.int .i64 0,.bool false,.int .u64 0,.int .u64 0])) 1 [(0,t17)] h fun t19 sW=>
fu (some (7,80,49)) t15 t19 sW W fun t21 uf=>
aP x0 fun t23=>
ai (some 5) t23 fun t24=>
ai (some 2) t24 fun t25=>
aG (some 1) t25 t21 uf W fun mS=>
n2 W R N E P x0 x3 mS
def n4:N4:=fun W R N E P x0 x3 x5 x6 h=>
∃Hd:Nat->Nat,(∀i∈[3,5],h.obj (Hd i)≠none)/\(
ai (some 0) x6 fun t27=>
al (some false) (some 1) t27 h fun t28 _=>
ai (some 1) x6 fun t30=>
al (some false) (some 1) t30 h fun t31 i32=>
(i32=Hd 3)/\(
ai (some 2) x6 fun t33=>
al (some false) (some 1) t33 h fun t34 i35=>
(i35=Hd 5)/\(
ai (some 4) x5 fun t36=>
aG (some 1) t36 t28 h (h_ W Hd [3,5]) fun sU=>
ai (some 5) x5 fun t38=>
aG (some 1) t38 t31 sU (h_ W Hd [5]) fun vL=>
ai (some 6) x5 fun t40=>
aG (some 1) t40 t34 vL W fun yX=>
n3 W R N E P x0 x3 x5 yX)))
def n5:N0:=fun _ R _ _ _ h=>
R [(.sc (.bool false))] h
def n6:N2:=fun W R N E P x0 x3 h=>
aP x0 fun t42=>
ai (some 8) t42 fun t43=>
aG (some 1) t43 x3 h W fun yW=>
n5 W R N E P yW
def n7:N5:=fun W R N E P x0 x3 x5 x6 aL h=>
aH aL (
n6 W R N E P x0 x3 h) (
n4 W R N E P x0 x3 x5 x6 h)
def n8:N4:=fun W R N E P x0 x3 x5 x6 h=>
aP x0 fun t45=>
ai (some 5) t45 fun t46=>
ai (some 2) t46 fun t47=>
al (some false) (some 1) t47 h fun t48 _=>
(ba t48=false)/\bK t48 fun t50=>
ah Pg .eql 3 true t50 (.sc (.int .i64 4096)) fun t51=>
n7 W R N E P x0 x3 x5 x6 t51 h
def n9:N4:=fun W R N E P x0 x1 x2 x3 h=>
eI 7 49 x1 h fun t52 vK=>
eI 3 69 x2 vK fun t54 ua=>
n8 W R N E P x0 x3 t52 t54 ua
theorem aM{x0 x1 x2 x3:AV}{h:AH}{M:WK}{R:RK}(hp:n9 (fun id=>M id\/h.next<=id) (aJ Pg [.tmp 8] R) (aJ Pg [.tmp 8] R) (fun _ _ _=>False) (fun v h=>R (.cg v) h) x0 x1 x2 x3 h):aE Pg 43 [x0,x1,x2,x3] h M R:=
 fin (n:=51) (pl:=[(4,⟨[(none,[(0,false),(1,false),(2,false),(3,true),(4,false),(5,true),(6,false),(7,false),(8,false),(9,false),(10,false),(11,false)])],true,[],[]⟩),(5,⟨[(none,(fr 0 13))],false,[],[]⟩)]) (rs:=[.tmp 8]) (L:=rs) (fun c=>(a4 n9 0 1 2 3 c)) Try.mixed Try.func43 (fun c=>
(sq (a4 n9 0 1 2 3 c)
(sn
(sn
(sq (a3 n3 0 3 5 c)
(sq (a2 n2 0 3 c)
(sl (a0 n1 c))))
(sm (a4 n4 0 3 5 6 c)))
(sq (a4 n8 0 3 5 6 c)
(cd (a5 n7 0 3 5 6 15 c) (sq (a2 n6 0 3 c)
(sl (a0 n5 c))) tr))))) hp
attribute [simp] n1 n2 n3 n4 n5 n6 n7 n8 n9
end vY
namespace fB
abbrev rs:List Nat:=[12]
def n1:N0:=fun _ R _ _ _ h=>
R [(.sc (.bool true))] h
def n2:N6:=fun _ _ N _ _ x0 x2 x3 x5 ap bg h=>
aP x0 fun t1=>
ai (some 0) t1 fun t2=>
al (some false) (some 1) t2 h fun t3 _=>
br (some (6,none)) t3 bg fun t5=>
ai (some 4) t5 fun t6=>
al (some false) (some 1) t6 h fun t7 _=>
ah Pg .add 3 true (.sc (.int .i64 1)) t7 fun t9=>
ah Pg .add 3 false bg t9 fun t10=>
N [x0,x2,x3,x5,ap,t10] h
def n3:N0:=fun _ R _ _ _ h=>
R [(.sc (.bool false))] h
def n4:N7:=fun W R N E P x0 x2 x3 x5 ap bg gM h=>
aH gM (
n3 W R N E P h) (
n2 W R N E P x0 x2 x3 x5 ap bg h)
def n5:N8:=fun W R N E P x0 x2 x3 x5 ap bg aY cV h=>
ai (some 1) aY fun t11=>
al (some false) (some 1) t11 h fun t12 _=>
al (some true) (some 3) ap h fun t14 _=>
aC Pg W 41 [x0,t12,cV,t14,x5] h (fun t16 qK=>
im .not t16 fun t18=>
n4 W R N E P x0 x2 x3 x5 ap bg t18 qK) P
def n6:qN:=fun _ _ N _ _ x0 x2 x3 x5 ap bg aY cV nK mO pQ h=>
ah Pg .add 3 true pQ (.sc (.int .i64 1)) fun t19=>
N [x0,x2,x3,x5,ap,bg,aY,cV,nK,mO,t19] h
def n7:V8:=fun W R N E P x0 x2 x3 x5 ap bg aY cV dt nK mO pQ h=>
ai (some 0) dt fun t20=>
al (some false) (some 1) t20 h fun t21 _=>
gH Pg (some (9,3)) x3 t21 false h fun t23 _=>
dX (some (1,3,[.int .i64 0])) 1 [(0,t23)] h fun t25 mS=>
fu (some (1,8,3)) cV t25 mS W fun t27 qI=>
n6 W R N E P x0 x2 x3 x5 ap bg aY t27 nK mO pQ qI
def n8:qN:=fun W R N E P x0 x2 x3 x5 ap bg aY cV nK mO pQ h=>
br (some (2,none)) nK pQ fun t29=>
al (some true) (some 2) t29 h fun t30 _=>
bw (some [.string ⟨#[]⟩,.int .i64 0]) 2 44 h fun t32 ub=>
aG (some 2) t32 t30 ub W fun Hz=>
n7 W R N E P x0 x2 x3 x5 ap bg aY cV t32 nK mO pQ Hz
def n9:V8:=fun W R N E P x0 x2 x3 x5 ap bg aY cV nK mO pQ ly h=>
aH ly (
n8 W R N E P x0 x2 x3 x5 ap bg aY cV nK mO pQ h) (
E 4 [x0,x2,x3,x5,ap,bg,aY,cV] h)
def aQ:qN:=fun W R N E P x0 x2 x3 x5 ap bg aY cV nK mO pQ h=>
ah Pg .lss 3 false pQ mO fun t35=>
n9 W R N E P x0 x2 x3 x5 ap bg aY cV nK mO pQ t35 h
def fY:GK:=fun W R N E P N' vs h=>aQ W R N' (fun(i:Nat) (vs:List AV) (h:AH)=>if i=4 then n5 W R N E P (vs.getD 0 aa) (vs.getD 1 aa) (vs.getD 2 aa) (vs.getD 3 aa) (vs.getD 4 aa) (vs.getD 5 aa) (vs.getD 6 aa) (vs.getD 7 aa) h else if i=1 then n2 W R N E P (vs.getD 0 aa) (vs.getD 1 aa) (vs.getD 2 aa) (vs.getD 3 aa) (vs.getD 4 aa) (vs.getD 5 aa) h else E i vs h) P (vs.getD 0 aa) (vs.getD 1 aa) (vs.getD 2 aa) (vs.getD 3 aa) (vs.getD 4 aa) (vs.getD 5 aa) (vs.getD 6 aa) (vs.getD 7 aa) (vs.getD 8 aa) (vs.getD 9 aa) (vs.getD 10 aa) h
def a_:qN:=fun W R N E P x0 x2 x3 x5 ap bg aY cV nK mO pQ h=>
cY (fY W R N E P) [x0,x2,x3,x5,ap,bg,aY,cV,nK,mO,pQ] h
def bc:N8:=fun W R N E P x0 x2 x3 x5 ap bg aY cV h=>
ai (some 2) aY fun t36=>
al (some false) (some 1) t36 h fun t37 _=>
(ba t37=false)/\bK t37 fun t39=>
a_ W R N E P x0 x2 x3 x5 ap bg aY cV t37 t39 (.sc (.int .i64 0)) h
def bt:N7:=fun W R N E P x0 x2 x3 x5 ap bg aY h=>
bc W R N E P x0 x2 x3 x5 ap bg aY (.sc (.slice none 0 0)) h
def bD:N6:=fun W R N E P x0 x2 x3 x5 ap bg h=>
n2 W R N E P x0 x2 x3 x5 ap bg h
def bC:N8:=fun _ _ N _ _ x0 x2 x3 x5 ap bg aY aL h=>
ah Pg .add 3 true aL (.sc (.int .i64 1)) fun t40=>
N [x0,x2,x3,x5,ap,bg,aY,t40] h
def bz:N9:=fun W R N E P x0 x2 x3 x5 ap bg aY aL SV h=>
aH SV (
E 2 [x0,x2,x3,x5,ap,bg] h) (
bC W R N E P x0 x2 x3 x5 ap bg aY aL h)
def bH:N9:=fun W R N E P x0 x2 x3 x5 ap bg aY aL cW h=>
aP x0 fun t41=>
ai (some 5) t41 fun t42=>
ai (some 2) t42 fun t43=>
al (some false) (some 1) t43 h fun t44 _=>
(ba t44=false)/\bK t44 fun t46=>
ah Pg .eql 3 false t46 cW fun t47=>
bz W R N E P x0 x2 x3 x5 ap bg aY aL t47 h
def bO:N0:=fun _ R _ _ _ h=>
R [(.sc (.bool false))] h
def bQ:km:=fun W R N E P x0 x2 x3 x5 ap bg aY aL cW iH h=>
aH iH (
bO W R N E P h) (
bH W R N E P x0 x2 x3 x5 ap bg aY aL cW h)
def b_:N9:=fun W R N E P x0 x2 x3 x5 ap bg aY aL cW h=>
ah Pg .add 3 true bg (.sc (.int .i64 1)) fun t48=>
ah Pg .add 3 true bg (.sc (.int .i64 1)) fun t49=>
ai (some 4) aY fun t50=>
al (some false) (some 1) t50 h fun t51 _=>
ah Pg .add 3 false t49 t51 fun t53=>
al (some true) (some 3) ap h fun t54 _=>
aC Pg W 64 [x0,t48,t53,x3,t54,x5] h (fun t56 xg=>
im .not t56 fun t58=>
bQ W R N E P x0 x2 x3 x5 ap bg aY aL cW t58 xg) P
def cp:N8:=fun W R N E P x0 x2 x3 x5 ap bg aY aL h=>
aP x0 fun t59=>
ai (some 5) t59 fun t60=>
ai (some 2) t60 fun t61=>
al (some false) (some 1) t61 h fun t62 _=>
(ba t62=false)/\bK t62 fun t64=>
b_ W R N E P x0 x2 x3 x5 ap bg aY aL t64 h
def bW:N9:=fun W R N E P x0 x2 x3 x5 ap bg aY aL fJ h=>
aH fJ (
cp W R N E P x0 x2 x3 x5 ap bg aY aL h) (
E 2 [x0,x2,x3,x5,ap,bg] h)
def cb:N8:=fun W R N E P x0 x2 x3 x5 ap bg aY aL h=>
ai (some 3) aY fun t65=>
al (some false) (some 1) t65 h fun t66 _=>
ah Pg .lss 3 false aL t66 fun t68=>
bW W R N E P x0 x2 x3 x5 ap bg aY aL t68 h
def kV:GK:=fun W R N E P N' vs h=>cb W R N' (fun(i:Nat) (vs:List AV) (h:AH)=>if i=2 then bD W R N E P (vs.getD 0 aa) (vs.getD 1 aa) (vs.getD 2 aa) (vs.getD 3 aa) (vs.getD 4 aa) (vs.getD 5 aa) h else if i=1 then n2 W R N E P (vs.getD 0 aa) (vs.getD 1 aa) (vs.getD 2 aa) (vs.getD 3 aa) (vs.getD 4 aa) (vs.getD 5 aa) h else E i vs h) P (vs.getD 0 aa) (vs.getD 1 aa) (vs.getD 2 aa) (vs.getD 3 aa) (vs.getD 4 aa) (vs.getD 5 aa) (vs.getD 6 aa) (vs.getD 7 aa) h
def cn:N8:=fun W R N E P x0 x2 x3 x5 ap bg aY aL h=>
cY (kV W R N E P) [x0,x2,x3,x5,ap,bg,aY,aL] h
def cj:N7:=fun W R N E P x0 x2 x3 x5 ap bg aY h=>
cn W R N E P x0 x2 x3 x5 ap bg aY (.sc (.int .i64 0)) h
def cl:N8:=fun W R N E P x0 x2 x3 x5 ap bg aY gE h=>
aH gE (
cj W R N E P x0 x2 x3 x5 ap bg aY h) (
bt W R N E P x0 x2 x3 x5 ap bg aY h)
def bV:N7:=fun W R N E P x0 x2 x3 x5 ap bg aY h=>
ai (some 0) aY fun t69=>
al (some false) (some 1) t69 h fun t70 _=>
ah Pg .eql 9 true t70 (.sc (.string ⟨#[114,101,112,101,97,116]⟩)) fun t72=>
cl W R N E P x0 x2 x3 x5 ap bg aY t72 h
def cy:N6:=fun W R N E P x0 x2 x3 x5 ap bg h=>
aP x0 fun t73=>
ai (some 0) t73 fun t74=>
al (some false) (some 1) t74 h fun t75 _=>
br (some (6,none)) t75 bg fun t77=>
al (some true) (some 6) t77 h fun t78 _=>
bw (some [.string ⟨#[]⟩,.string ⟨#[]⟩,.slice none 0 0,.int .i64 0,.int .i64 0,.int .i64 0]) 6 42 h fun t80 K6=>
aG (some 6) t80 t78 K6 W fun w9=>
bV W R N E P x0 x2 x3 x5 ap bg t80 w9
def cz:N7:=fun W R N E P x0 x2 x3 x5 ap bg Ef h=>
aH Ef (
cy W R N E P x0 x2 x3 x5 ap bg h) (
E 0 [] h)
def cK:N6:=fun W R N E P x0 x2 x3 x5 ap bg h=>
ah Pg .lss 3 false bg x2 fun t83=>
cz W R N E P x0 x2 x3 x5 ap bg t83 h
def cB:GK:=fun W R N E P N' vs h=>cK W R N' (fun(i:Nat) (vs:List AV) (h:AH)=>if i=0 then n1 W R N E P h else E i vs h) P (vs.getD 0 aa) (vs.getD 1 aa) (vs.getD 2 aa) (vs.getD 3 aa) (vs.getD 4 aa) (vs.getD 5 aa) h
def da:N6:=fun W R N E P x0 x2 x3 x5 ap bg h=>
cY (cB W R N E P) [x0,x2,x3,x5,ap,bg] h
def cT:N6:=fun W R N E P x0 x1 x2 x3 x5 ap h=>
da W R N E P x0 x2 x3 x5 ap x1 h
def dx:N6:=fun W R N E P x0 x1 x2 x3 x4 x5 h=>
eI 3 69 x4 h fun t84 rP=>
cT W R N E P x0 x1 x2 x3 x5 t84 rP
theorem aM{x0 x1 x2 x3 x4 x5:AV}{h:AH}{M:WK}{R:RK}(hp:dx (fun id=>M id\/h.next<=id) (aJ Pg [.tmp 12] R) (aJ Pg [.tmp 12] R) (fun _ _ _=>False) (fun v h=>R (.cg v) h) x0 x1 x2 x3 x4 x5 h):aE Pg 64 [x0,x1,x2,x3,x4,x5] h M R:=
 fin (n:=101) (pl:=[]) (rs:=[.tmp 12]) (L:=rs) (fun c=>(a6 dx 0 1 2 3 4 5 c)) Try.mixed Try.func64 (fun c=>
(sq (a6 dx 0 1 2 3 4 5 c)
(sn
(sl (a0 n1 c))
(sq (a6 cT 0 1 2 3 5 10 c)
(bk 0 (lp [0,2,3,5,10,13] rs [(0,[])] (a6 da 0 2 3 5 10 13 c) cB (fun i vs h=>if i=0 then n1 c.W c.R c.N c.E c.P h else c.E i vs h) (.b (.t .o)) fun c=>
(sn
(sn
(sm (a6 n2 0 2 3 5 10 13 c))
(bk 1 (sq (a6 cy 0 2 3 5 10 13 c)
(sn
(sq (a7 bt 0 2 3 5 10 13 14 c)
(sn
(sq (a8 n5 0 2 3 5 10 13 14 17 c)
(cd (a7 n4 0 2 3 5 10 13 100 c) (sl (a0 n3 c)) tr))
(sq (a8 bc 0 2 3 5 10 13 14 17 c)
(bk 4 (lp [0,2,3,5,10,13,14,17,79,80,81] rs [(4,[0,2,3,5,10,13,14,17]),(1,[0,2,3,5,10,13]),(0,[])] (rW a_ 0 2 3 5 10 13 14 17 79 80 81 c) fY (fun i vs h=>if i=4 then n5 c.W c.R c.N c.E c.P (vs.getD 0 aa) (vs.getD 1 aa) (vs.getD 2 aa) (vs.getD 3 aa) (vs.getD 4 aa) (vs.getD 5 aa) (vs.getD 6 aa) (vs.getD 7 aa) h else if i=1 then n2 c.W c.R c.N c.E c.P (vs.getD 0 aa) (vs.getD 1 aa) (vs.getD 2 aa) (vs.getD 3 aa) (vs.getD 4 aa) (vs.getD 5 aa) h else c.E i vs h) (.b (.t (.b (.t .o)))) fun c=>
(sq (rW aQ 0 2 3 5 10 13 14 17 79 80 81 c)
(sn
(sn
(sm (rW n6 0 2 3 5 10 13 14 17 79 80 81 c))
(bk 5 (sq (rW n8 0 2 3 5 10 13 14 17 79 80 81 c)
(sm (a12 n7 0 2 3 5 10 13 14 17 19 79 80 81 c)))))
(cd (a12 n9 0 2 3 5 10 13 14 17 79 80 81 82 c) tr tr))))))))
(sq (a7 bV 0 2 3 5 10 13 14 c)
(cd (a8 cl 0 2 3 5 10 13 14 44 c) (sn
(sm (a6 bD 0 2 3 5 10 13 c))
(sq (a7 cj 0 2 3 5 10 13 14 c)
(bk 2 (lp [0,2,3,5,10,13,14,15] rs [(2,[0,2,3,5,10,13]),(1,[0,2,3,5,10,13]),(0,[])] (a8 cn 0 2 3 5 10 13 14 15 c) kV (fun i vs h=>if i=2 then bD c.W c.R c.N c.E c.P (vs.getD 0 aa) (vs.getD 1 aa) (vs.getD 2 aa) (vs.getD 3 aa) (vs.getD 4 aa) (vs.getD 5 aa) h else if i=1 then n2 c.W c.R c.N c.E c.P (vs.getD 0 aa) (vs.getD 1 aa) (vs.getD 2 aa) (vs.getD 3 aa) (vs.getD 4 aa) (vs.getD 5 aa) h else c.E i vs h) (.b (.t (.t (.b (.t .o))))) fun c=>
(sn
(sn
(sm (a8 bC 0 2 3 5 10 13 14 15 c))
(bk 3 (sq (a8 cp 0 2 3 5 10 13 14 15 c)
(sn
(sq (a9 bH 0 2 3 5 10 13 14 15 16 c)
(cd (a9 bz 0 2 3 5 10 13 14 15 77 c) tr tr))
(sq (a9 b_ 0 2 3 5 10 13 14 15 16 c)
(cd (kE bQ 0 2 3 5 10 13 14 15 16 69 c) (sl (a0 bO c)) tr))))))
(sq (a8 cb 0 2 3 5 10 13 14 15 c)
(cd (a9 bW 0 2 3 5 10 13 14 15 48 c) tr tr))))))) tr))))))
(sq (a6 cK 0 2 3 5 10 13 c)
(cd (a7 cz 0 2 3 5 10 13 23 c) tr tr))))))))) hp
attribute [simp] n1 n2 n3 n4 n5 n6 n7 n8 n9 aQ bc bt bD bC bz bH bO bQ b_ cp bW cb cj cl bV cy cz cK cT dx
end fB
namespace dJ
abbrev rs:List Nat:=[8]
def n1:N0:=fun _ R _ _ _ h=>
R [(.sc (.bool true))] h
def n2:N4:=fun _ _ N _ _ x0 x2 x7 x9 h=>
aP x0 fun t1=>
ai (some 0) t1 fun t2=>
al (some false) (some 1) t2 h fun t3 _=>
br (some (6,none)) t3 x9 fun t5=>
ai (some 4) t5 fun t6=>
al (some false) (some 1) t6 h fun t7 _=>
ah Pg .add 3 true (.sc (.int .i64 1)) t7 fun t9=>
ah Pg .add 3 false x9 t9 fun t10=>
N [x0,x2,x7,t10] h
def n3:N0:=fun _ R _ _ _ h=>
R [(.sc (.bool false))] h
def n4:N5:=fun W R N E P x0 x2 x7 x9 Y7 h=>
aH Y7 (
n3 W R N E P h) (
n2 W R N E P x0 x2 x7 x9 h)
def n5:N5:=fun W R N E P x0 x2 x7 x9 aq h=>
im .not aq fun t11=>
n4 W R N E P x0 x2 x7 x9 t11 h
def n6:N7:=fun _ _ N _ _ x0 x2 x7 x9 ap aq ax h=>
ah Pg .add 3 true ax (.sc (.int .i64 1)) fun t12=>
N [x0,x2,x7,x9,ap,aq,t12] h
def n7:N8:=fun W R N E P x0 x2 x7 x9 ap aq ax SX h=>
aH SX (
E 3 [x0,x2,x7,x9,aq] h) (
n6 W R N E P x0 x2 x7 x9 ap aq ax h)
def n8:N8:=fun W R N E P x0 x2 x7 x9 ap aq ax bg h=>
aP x0 fun t13=>
ai (some 5) t13 fun t14=>
ai (some 2) t14 fun t15=>
al (some false) (some 1) t15 h fun t16 _=>
(ba t16=false)/\bK t16 fun t18=>
ah Pg .eql 3 false t18 bg fun t19=>
n7 W R N E P x0 x2 x7 x9 ap aq ax t19 h
def n9:N7:=fun W R N E P x0 x2 x7 x9 ap ax bg h=>
ah Pg .add 3 true x9 (.sc (.int .i64 1)) fun t20=>
ah Pg .add 3 true x9 (.sc (.int .i64 1)) fun t21=>
ai (some 4) ap fun t22=>
al (some false) (some 1) t22 h fun t23 _=>
ah Pg .add 3 false t21 t23 fun t25=>
al (some true) (some 3) x7 h fun t26 _=>
aC Pg W 22 [x0,t20,t25,t26] h (fun t28 HA=>
n8 W R N E P x0 x2 x7 x9 ap t28 ax bg HA) P
def aQ:N6:=fun W R N E P x0 x2 x7 x9 ap ax h=>
aP x0 fun t30=>
ai (some 5) t30 fun t31=>
ai (some 2) t31 fun t32=>
al (some false) (some 1) t32 h fun t33 _=>
(ba t33=false)/\bK t33 fun t35=>
n9 W R N E P x0 x2 x7 x9 ap ax t35 h
def a_:N8:=fun W R N E P x0 x2 x7 x9 ap aq ax jZ h=>
aH jZ (
aQ W R N E P x0 x2 x7 x9 ap ax h) (
E 3 [x0,x2,x7,x9,aq] h)
def bc:N9:=fun W R N E P x0 x2 x7 x9 ap aq ax fJ jn h=>
aV fJ jn (.sc (.bool false)) fun t36=>
a_ W R N E P x0 x2 x7 x9 ap aq ax t36 h
def bt:N8:=fun W R N E P x0 x2 x7 x9 ap aq ax fJ h=>
bF true fJ (
bc W R N E P x0 x2 x7 x9 ap aq ax fJ aq h) (
bc W R N E P x0 x2 x7 x9 ap aq ax fJ aa h)
def bD:N7:=fun W R N E P x0 x2 x7 x9 ap aq ax h=>
ai (some 3) ap fun t37=>
al (some false) (some 1) t37 h fun t38 _=>
ah Pg .lss 3 false ax t38 fun t40=>
bt W R N E P x0 x2 x7 x9 ap aq ax t40 h
def fY:GK:=fun W R N E P N' vs h=>bD W R N' (fun(i:Nat) (vs:List AV) (h:AH)=>if i=3 then n5 W R N E P (vs.getD 0 aa) (vs.getD 1 aa) (vs.getD 2 aa) (vs.getD 3 aa) (vs.getD 4 aa) h else if i=2 then n5 W R N E P (vs.getD 0 aa) (vs.getD 1 aa) (vs.getD 2 aa) (vs.getD 3 aa) (vs.getD 4 aa) h else if i=1 then n2 W R N E P (vs.getD 0 aa) (vs.getD 1 aa) (vs.getD 2 aa) (vs.getD 3 aa) h else E i vs h) P (vs.getD 0 aa) (vs.getD 1 aa) (vs.getD 2 aa) (vs.getD 3 aa) (vs.getD 4 aa) (vs.getD 5 aa) (vs.getD 6 aa) h
def bC:N7:=fun W R N E P x0 x2 x7 x9 ap aq ax h=>
cY (fY W R N E P) [x0,x2,x7,x9,ap,aq,ax] h
def bz:N6:=fun W R N E P x0 x2 x7 x9 ap aq h=>
bC W R N E P x0 x2 x7 x9 ap aq (.sc (.int .i64 0)) h
def bH:N7:=fun W R N E P x0 x2 x7 x9 ap aL cW h=>
ah Pg .add 3 true x9 (.sc (.int .i64 1)) fun t41=>
ah Pg .add 3 true x9 (.sc (.int .i64 1)) fun t42=>
ai (some 4) ap fun t43=>
al (some false) (some 1) t43 h fun t44 _=>
ah Pg .add 3 false t42 t44 fun t46=>
ai (some 1) x7 fun t47=>
al (some false) (some 1) t47 h fun t48 _=>
ah Pg .or 47 false t48 aL fun t50=>
ai (some 2) x7 fun t51=>
al (some false) (some 1) t51 h fun t52 _=>
ah Pg .or 47 false t52 cW fun t54=>
cR (some ([.bool false,.int .u64 0,.int .u64 0],.inl [(0,1),(1,1),(2,1)])) [(0,(.sc (.bool true))),(1,t50),(2,t54)] fun t55=>
aC Pg W 22 [x0,t41,t46,t55] h (fun t56 xg=>
n5 W R N E P x0 x2 x7 x9 t56 xg) P
def bO:N8:=fun W R N E P x0 x2 x7 x9 ap aL cW Zt h=>
aH Zt (
n2 W R N E P x0 x2 x7 x9 h) (
bH W R N E P x0 x2 x7 x9 ap aL cW h)
def bQ:N7:=fun W R N E P x0 x2 x7 x9 ap aL cW h=>
ai (some 2) x7 fun t58=>
al (some false) (some 1) t58 h fun t59 _=>
ah Pg .and 47 false t59 aL fun t61=>
ai (some 1) x7 fun t62=>
al (some false) (some 1) t62 h fun t63 _=>
ah Pg .and 47 false cW t63 fun t65=>
ah Pg .neq 47 false t61 t65 fun t66=>
bO W R N E P x0 x2 x7 x9 ap aL cW t66 h
def b_:N7:=fun W R N E P x0 x2 x7 x9 ap aY aL h=>
ai (some 3) ap fun t67=>
al (some false) (some 1) t67 h fun t68 _=>
qp (some .u64) t68 fun t70=>
ai (some 0) aY fun t71=>
al (some false) (some 1) t71 h fun t72 _=>
ah Pg .shl 47 false t70 t72 fun t74=>
bQ W R N E P x0 x2 x7 x9 ap aL t74 h
def cp:N6:=fun W R N E P x0 x2 x7 x9 ap aY h=>
ai (some 1) aY fun t75=>
al (some false) (some 1) t75 h fun t76 _=>
ah Pg .shl 47 true (.sc (.int .u64 1)) t76 fun t78=>
ah Pg .sub 47 true t78 (.sc (.int .u64 1)) fun t79=>
ai (some 0) aY fun t80=>
al (some false) (some 1) t80 h fun t81 _=>
ah Pg .shl 47 false t79 t81 fun t83=>
b_ W R N E P x0 x2 x7 x9 ap aY t83 h
def bW:N5:=fun W R N E P x0 x2 x7 x9 ap h=>
aP x0 fun t84=>
ai (some 2) t84 fun t85=>
al (some false) (some 1) t85 h fun t86 _=>
ai (some 1) ap fun t88=>
al (some false) (some 1) t88 h fun t89 _=>
gH Pg (some (9,93)) t86 t89 false h fun t91 _=>
bw (some [.int .i64 0,.int .i64 0]) 2 93 h fun t93 Fz=>
aG (some 2) t93 t91 Fz W fun Vb=>
cp W R N E P x0 x2 x7 x9 ap t93 Vb
def cb:N5:=fun W R N E P x0 x2 x7 x9 ap h=>
∃Hd:Nat->Nat,(∀i∈[2,7,9],h.obj (Hd i)≠none)/\(
ai (some 1) ap fun t96=>
al (some false) (some 1) t96 h fun t97 i98=>
(i98=Hd 2)/\(
ai (some 2) ap fun t99=>
al (some false) (some 1) t99 h fun t100 _=>
al (some true) (some 3) x7 h fun t102 i103=>
(i103=Hd 7)/\(
ai (some 5) ap fun t104=>
al (some false) (some 1) t104 h fun t105 i106=>
(i106=Hd 9)/\(
aC Pg (h_ W Hd [2,7,9]) 42 [x0,t100] h (fun t107 uR=>
aC Pg W 41 [x0,t97,t107,t102,t105] uR (fun t109 FO=>
n5 W R N E P x0 x2 x7 x9 t109 FO) P) P))))
def cn:N6:=fun W R N E P x0 x2 x7 x9 ap cV h=>
∃Hd:Nat->Nat,(∀i∈[8,10],h.obj (Hd i)≠none)/\(
ai (some 2) ap fun t111=>
al (some false) (some 1) t111 h fun t112 _=>
oE (some 2) t112 none (some (.sc (.int .i64 1))) h fun t114=>
al (some true) (some 3) x7 h fun t115 i116=>
(i116=Hd 8)/\(
ai (some 5) ap fun t117=>
al (some false) (some 1) t117 h fun t118 i119=>
(i119=Hd 10)/\(
aC Pg (h_ W Hd [8,10]) 42 [x0,t114] h (fun t120 abJ=>
cR (some ([.int .i64 0,.string ⟨#[]⟩,.slice none 0 0,.int .i64 0,.bool false,.int .u64 0,.int .u64 0],.inl [(0,1),(1,1),(2,1),(3,1),(4,1),(5,1),(6,1)])) [(0,(.sc (.int .i64 2))),(2,t120),(3,cV)] fun t122=>
aC Pg W 43 [x0,t122,t115,t118] abJ (fun t123 FK=>
n5 W R N E P x0 x2 x7 x9 t123 FK) P) P)))
def cj:N5:=fun W R N E P x0 x2 x7 x9 ap h=>
aP x0 fun t125=>
ai (some 2) t125 fun t126=>
al (some false) (some 1) t126 h fun t127 _=>
ai (some 2) ap fun t129=>
al (some false) (some 1) t129 h fun t130 _=>
br (some (2,none)) t130 (.sc (.int .i64 1)) fun t132=>
ai (some 0) t132 fun t133=>
al (some false) (some 1) t133 h fun t134 _=>
gH Pg (some (9,93)) t127 t134 false h fun t136 _=>
ml (some (0,1,false)) t136 fun t138=>
ai (some 2) ap fun t139=>
al (some false) (some 1) t139 h fun t140 _=>
br (some (2,none)) t140 (.sc (.int .i64 1)) fun t142=>
ai (some 1) t142 fun t143=>
al (some false) (some 1) t143 h fun t144 _=>
ah Pg .add 3 false t138 t144 fun t146=>
cn W R N E P x0 x2 x7 x9 ap t146 h
def cl:N5:=fun W R N E P x0 x2 x7 x9 ap h=>
∃Hd:Nat->Nat,(∀i∈[6,8],h.obj (Hd i)≠none)/\(
ai (some 2) ap fun t147=>
al (some false) (some 1) t147 h fun t148 _=>
al (some true) (some 3) x7 h fun t150 i151=>
(i151=Hd 6)/\(
ai (some 5) ap fun t152=>
al (some false) (some 1) t152 h fun t153 i154=>
(i154=Hd 8)/\(
aC Pg (h_ W Hd [6,8]) 42 [x0,t148] h (fun t155 NE=>
cR (some ([.int .i64 0,.string ⟨#[]⟩,.slice none 0 0,.int .i64 0,.bool false,.int .u64 0,.int .u64 0],.inl [(0,1),(1,1),(2,1),(3,1),(4,1),(5,1),(6,1)])) [(0,(.sc (.int .i64 3))),(2,t155)] fun t157=>
aC Pg W 43 [x0,t157,t150,t153] NE (fun t158 NC=>
n5 W R N E P x0 x2 x7 x9 t158 NC) P) P)))
def bV:N7:=fun W R N E P x0 x2 x7 x9 ap aq Mc h=>
aH Mc (
cl W R N E P x0 x2 x7 x9 ap h) (
n5 W R N E P x0 x2 x7 x9 aq h)
def cy:N7:=fun W R N E P x0 x2 x7 x9 ap aq ke h=>
ah Pg .eql 9 true ke (.sc (.string ⟨#[114,101,115,101,116]⟩)) fun t160=>
bV W R N E P x0 x2 x7 x9 ap aq t160 h
def cz:N8:=fun W R N E P x0 x2 x7 x9 ap aq ke Zi h=>
aH Zi (
cj W R N E P x0 x2 x7 x9 ap h) (
cy W R N E P x0 x2 x7 x9 ap aq ke h)
def cK:N7:=fun W R N E P x0 x2 x7 x9 ap aq ke h=>
ah Pg .eql 9 true ke (.sc (.string ⟨#[109,101,97,115,117,114,101]⟩)) fun t161=>
cz W R N E P x0 x2 x7 x9 ap aq ke t161 h
def da:N8:=fun W R N E P x0 x2 x7 x9 ap aq ke Mg h=>
aH Mg (
cb W R N E P x0 x2 x7 x9 ap h) (
cK W R N E P x0 x2 x7 x9 ap aq ke h)
def cT:N7:=fun W R N E P x0 x2 x7 x9 ap aq ke h=>
ah Pg .eql 9 true ke (.sc (.string ⟨#[117,115,101]⟩)) fun t162=>
da W R N E P x0 x2 x7 x9 ap aq ke t162 h
def dx:N8:=fun W R N E P x0 x2 x7 x9 ap aq ke SV h=>
aH SV (
bW W R N E P x0 x2 x7 x9 ap h) (
cT W R N E P x0 x2 x7 x9 ap aq ke h)
def dW:N7:=fun W R N E P x0 x2 x7 x9 ap aq ke h=>
ah Pg .eql 9 true ke (.sc (.string ⟨#[105,102]⟩)) fun t163=>
dx W R N E P x0 x2 x7 x9 ap aq ke t163 h
def dT:N8:=fun W R N E P x0 x2 x7 x9 ap aq ke mY h=>
aH mY (
bz W R N E P x0 x2 x7 x9 ap aq h) (
dW W R N E P x0 x2 x7 x9 ap aq ke h)
def dV:N7:=fun W R N E P x0 x2 x7 x9 ap aq ke h=>
ah Pg .eql 9 true ke (.sc (.string ⟨#[114,101,112,101,97,116]⟩)) fun t164=>
dT W R N E P x0 x2 x7 x9 ap aq ke t164 h
def ed:N6:=fun W R N E P x0 x2 x7 x9 ap aq h=>
ai (some 0) ap fun t165=>
al (some false) (some 1) t165 h fun t166 _=>
dV W R N E P x0 x2 x7 x9 ap aq t166 h
def eJ:N5:=fun W R N E P x0 x2 x7 x9 ap h=>
ed W R N E P x0 x2 x7 x9 ap (.sc (.bool true)) h
def dF:N4:=fun W R N E P x0 x2 x7 x9 h=>
aP x0 fun t168=>
ai (some 0) t168 fun t169=>
al (some false) (some 1) t169 h fun t170 _=>
br (some (6,none)) t170 x9 fun t172=>
al (some true) (some 6) t172 h fun t173 _=>
bw (some [.string ⟨#[]⟩,.string ⟨#[]⟩,.slice none 0 0,.int .i64 0,.int .i64 0,.int .i64 0]) 6 42 h fun t175 abm=>
aG (some 6) t175 t173 abm W fun FJ=>
eJ W R N E P x0 x2 x7 x9 t175 FJ
def d_:N5:=fun W R N E P x0 x2 x7 x9 dK h=>
aH dK (
dF W R N E P x0 x2 x7 x9 h) (
E 0 [] h)
def dL:N4:=fun W R N E P x0 x2 x7 x9 h=>
ah Pg .lss 3 false x9 x2 fun t178=>
d_ W R N E P x0 x2 x7 x9 t178 h
def cB:GK:=fun W R N E P N' vs h=>dL W R N' (fun(i:Nat) (vs:List AV) (h:AH)=>if i=0 then n1 W R N E P h else E i vs h) P (vs.getD 0 aa) (vs.getD 1 aa) (vs.getD 2 aa) (vs.getD 3 aa) h
def eC:N4:=fun W R N E P x0 x2 x7 x9 h=>
cY (cB W R N E P) [x0,x2,x7,x9] h
def eu:N4:=fun W R N E P x0 x1 x2 x7 h=>
eC W R N E P x0 x2 x7 x1 h
def dO:N4:=fun W R N E P x0 x1 x2 x3 h=>
eI 3 69 x3 h fun t179 NB=>
eu W R N E P x0 x1 x2 t179 NB
theorem aM{x0 x1 x2 x3:AV}{h:AH}{M:WK}{R:RK}(hp:dO (fun id=>M id\/h.next<=id) (aJ Pg [.tmp 8] R) (aJ Pg [.tmp 8] R) (fun _ _ _=>False) (fun v h=>R (.cg v) h) x0 x1 x2 x3 h):aE Pg 22 [x0,x1,x2,x3] h M R:=
 fin (n:=184) (pl:=[(9,⟨[(none,(fr 0 5)),(some (4,true),(fr 5 1)),(none,(fr 6 1))],false,[],[]⟩),(15,⟨[(none,(fr 0 9))],false,[],[]⟩),(16,⟨[(none,(fr 0 8))],false,[],[]⟩),(21,⟨[(none,[(0,false),(1,false),(2,true),(3,false),(4,false),(5,false),(7,true),(8,false),(9,true),(6,false),(10,false),(11,false)])],true,[],[]⟩),(23,⟨[(none,(fr 0 18))],false,[],[]⟩),(24,⟨[(none,[(0,false),(1,false),(2,false),(3,false),(4,false),(6,false),(8,true),(9,false),(10,true),(5,false),(7,false),(11,false),(12,false)])],true,[],[]⟩),(26,⟨[(none,[(0,false),(1,false),(2,false),(3,false),(6,true),(7,false),(8,true),(4,false),(5,false),(9,false),(10,false)])],true,[],[]⟩)]) (rs:=[.tmp 8]) (L:=rs) (fun c=>(a4 dO 0 1 2 3 c)) Try.mixed Try.func22 (fun c=>
(sq (a4 dO 0 1 2 3 c)
(sn
(sl (a0 n1 c))
(sq (a4 eu 0 1 2 7 c)
(bk 0 (lp [0,2,7,9] rs [(0,[])] (a4 eC 0 2 7 9 c) cB (fun i vs h=>if i=0 then n1 c.W c.R c.N c.E c.P h else c.E i vs h) (.b (.t .o)) fun c=>
(sn
(sn
(sm (a4 n2 0 2 7 9 c))
(bk 1 (sq (a4 dF 0 2 7 9 c)
(sq (a5 eJ 0 2 7 9 10 c)
(sn
(sq (a5 n5 0 2 7 9 11 c)
(cd (a5 n4 0 2 7 9 183 c) (sl (a0 n3 c)) tr))
(sq (a6 ed 0 2 7 9 10 11 c)
(bk 2 (sq (a7 dV 0 2 7 9 10 11 41 c)
(cd (a8 dT 0 2 7 9 10 11 41 42 c) (sq (a6 bz 0 2 7 9 10 11 c)
(bk 3 (lp [0,2,7,9,10,11,12] rs [(3,[0,2,7,9,11]),(2,[0,2,7,9,11]),(1,[0,2,7,9]),(0,[])] (a7 bC 0 2 7 9 10 11 12 c) fY (fun i vs h=>if i=3 then n5 c.W c.R c.N c.E c.P (vs.getD 0 aa) (vs.getD 1 aa) (vs.getD 2 aa) (vs.getD 3 aa) (vs.getD 4 aa) h else if i=2 then n5 c.W c.R c.N c.E c.P (vs.getD 0 aa) (vs.getD 1 aa) (vs.getD 2 aa) (vs.getD 3 aa) (vs.getD 4 aa) h else if i=1 then n2 c.W c.R c.N c.E c.P (vs.getD 0 aa) (vs.getD 1 aa) (vs.getD 2 aa) (vs.getD 3 aa) h else c.E i vs h) (.b (.b (.t (.b (.t .o))))) fun c=>
(sn
(sn
(sm (a7 n6 0 2 7 9 10 11 12 c))
(bk 4 (sq (a6 aQ 0 2 7 9 10 12 c)
(sq (a7 n9 0 2 7 9 10 12 13 c)
(sq (a8 n8 0 2 7 9 10 11 12 13 c)
(cd (a8 n7 0 2 7 9 10 11 12 76 c) tr tr))))))
(sn
(cd (a8 a_ 0 2 7 9 10 11 12 50 c) tr tr)
(gr (gn (a7 bD 0 2 7 9 10 11 12 c) (gx (a8 bt 0 2 7 9 10 11 12 48 c) (gl (a9 bc 0 2 7 9 10 11 12 48 49 c)))))))))) (sq (a7 dW 0 2 7 9 10 11 41 c)
(cd (a8 dx 0 2 7 9 10 11 41 77 c) (sq (a5 bW 0 2 7 9 10 c)
(sq (a6 cp 0 2 7 9 10 14 c)
(sq (a7 b_ 0 2 7 9 10 14 15 c)
(sn
(sm (a7 bH 0 2 7 9 10 15 16 c))
(sq (a7 bQ 0 2 7 9 10 15 16 c)
(cd (a8 bO 0 2 7 9 10 15 16 107 c) tr tr)))))) (sq (a7 cT 0 2 7 9 10 11 41 c)
(cd (a8 da 0 2 7 9 10 11 41 126 c) (sm (a5 cb 0 2 7 9 10 c)) (sq (a7 cK 0 2 7 9 10 11 41 c)
(cd (a8 cz 0 2 7 9 10 11 41 139 c) (sq (a5 cj 0 2 7 9 10 c)
(sm (a6 cn 0 2 7 9 10 17 c))) (sq (a7 cy 0 2 7 9 10 11 41 c)
(cd (a7 bV 0 2 7 9 10 11 170 c) (sm (a5 cl 0 2 7 9 10 c)) tr)))))))))))))))))
(sq (a4 dL 0 2 7 9 c)
(cd (a5 d_ 0 2 7 9 21 c) tr tr))))))))) hp
attribute [simp] n1 n2 n3 n4 n5 n6 n7 n8 n9 aQ a_ bc bt bD bz bH bO bQ b_ cp bW cb cn cj cl bV cy cz cK da cT dx dW dT dV ed eJ dF d_ dL eu dO
end dJ
end
end Go.Proofs.Ytjehibknlmehmaa
