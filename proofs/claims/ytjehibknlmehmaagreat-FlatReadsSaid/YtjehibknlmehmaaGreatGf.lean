/- Bodies of package flat; printed. No condition. -/
import Derived.Test.YtjehibknlmehmaaGreatGl
set_option maxRecDepth 100000
namespace Go.Proofs.YtjehibknlmehmaaGreat
section
open Go.Ab
namespace lK
abbrev rs:List Nat:=[2,3,4]
def n1:N2:=fun W R _ _ _ x2 x5 h=>
aH x5 fun t1=>
ah (some 5) t1 fun t2=>
ao (some true) (some 3) t2 h fun t3 _=>
aD (some 3) x2 t3 h W fun h5=>
R [x2,(.sc (.int .i64 0)),(.sc (.int .i64 0))] h5
def n2:N2:=fun W R _ _ _ x2 x8 h=>
cN (some ([.int .i64 0,.int .i64 0,.slice none 0 0],.inl [(0,1),(1,1),(2,1)])) [] fun t6=>
aD (some 3) x2 t6 h W fun h7=>
R [x2,(.sc (.int .i64 0)),x8] h7
def n3:N3:=fun _ R _ _ _ x2 x3 x4 h=>
R [x2,x3,x4] h
def n4:N4:=fun W R N E P x2 x5 x7 x8 h=>
∃Hd:Nat->Nat,(∀i∈[4,7],h.obj (Hd i)≠none)/\(
cN (some ([.int .i64 0,.int .i64 0,.slice none 0 0],.inl [(0,1),(1,1),(2,1)])) [] fun t8=>
aH x5 fun t9=>
ah (some 4) t9 fun t10=>
ao (some false) (some 1) t10 h fun t11 i12=>
(i12=Hd 4)/\(
bB (some (1,none)) t11 x7 fun t13=>
ao (some false) (some 1) t13 h fun t14 i15=>
(i15=Hd 7)/\(
aD (some 3) x2 t8 h (iZ W Hd [4,7]) fun rW=>
n3 W R N E P x2 t14 x8 rW)))
def n5:N5:=fun W R N E P x2 x5 x7 x8 lL h=>
aF lL (
n4 W R N E P x2 x5 x7 x8 h) (
n2 W R N E P x2 x8 h)
def n6:N4:=fun W R N E P x2 x5 x7 x8 h=>
aH x5 fun t17=>
ah (some 4) t17 fun t18=>
ao (some false) (some 1) t18 h fun t19 _=>
(aY t19=false)/\bL t19 fun t21=>
ai Pg .lss 3 false x7 t21 fun t22=>
n5 W R N E P x2 x5 x7 x8 t22 h
def n7:N5:=fun W R N E P x2 x5 x7 x8 nI h=>
aF nI (
n6 W R N E P x2 x5 x7 x8 h) (
n1 W R N E P x2 x5 h)
def n8:N4:=fun W R N E P x2 x5 x7 x8 h=>
ai Pg .neq 28 true x8 (.sc (.int .i64 0)) fun t23=>
n7 W R N E P x2 x5 x7 x8 t23 h
def n9:N2:=fun W R N E P x2 x5 h=>
aH x5 fun t24=>
ah (some 5) t24 fun t25=>
ao (some true) (some 3) t25 h fun t26 _=>
aq Pg W 25 [t26] h (fun t28 Ib=>
cW t28 0 fun t30=>
cW t28 1 fun t31=>
n8 W R N E P x2 x5 t30 t31 Ib) P
def aS:N3:=fun _ R _ _ _ x2 x3 x4 h=>
R [x2,x3,x4] h
def bj:N2:=fun W R N E P x2 x5 h=>
∃Hd:Nat->Nat,(∀i∈[4],h.obj (Hd i)≠none)/\(
cN (some ([.int .i64 0,.int .i64 0,.slice none 0 0],.inl [(0,1),(1,1),(2,1)])) [] fun t32=>
aH x5 fun t33=>
ah (some 8) t33 fun t34=>
ao (some false) (some 1) t34 h fun t35 i36=>
(i36=Hd 4)/\(
aD (some 3) x2 t32 h (iZ W Hd [4]) fun tX=>
aS W R N E P x2 t35 (.sc (.int .i64 115)) tX))
def a_:N3:=fun W R N E P x2 x5 l_ h=>
aF l_ (
bj W R N E P x2 x5 h) (
n9 W R N E P x2 x5 h)
def bH:N3:=fun W R N E P x0 x2 x5 h=>
(aY x0=false)/\bL x0 fun t38=>
cN (some ([.bool false,.int .u64 0,.int .u64 0],.inl [(0,1),(1,1),(2,1)])) [] fun t39=>
aq Pg W 24 [x5,(.sc (.int .i64 0)),t38,t39] h (fun t40 wM=>
iH .not t40 fun t42=>
a_ W R N E P x2 x5 t42 wM) P
def bP:N3:=fun _ R _ _ _ x2 x3 x4 h=>
R [x2,x3,x4] h
def bV:N3:=fun W R N E P x2 x5 x6 h=>
∃Hd:Nat->Nat,(∀i∈[4],h.obj (Hd i)≠none)/\(
cN (some ([.int .i64 0,.int .i64 0,.slice none 0 0],.inl [(0,1),(1,1),(2,1)])) [] fun t43=>
aH x5 fun t44=>
ah (some 8) t44 fun t45=>
ao (some false) (some 1) t45 h fun t46 i47=>
(i47=Hd 4)/\(
aD (some 3) x2 t43 h (iZ W Hd [4]) fun qa=>
bP W R N E P x2 t46 x6 qa))
def bR:N5:=fun W R N E P x0 x2 x5 x6 du h=>
aF du (
bV W R N E P x2 x5 x6 h) (
bH W R N E P x0 x2 x5 h)
def b5:N4:=fun W R N E P x0 x2 x5 x6 h=>
ai Pg .neq 28 true x6 (.sc (.int .i64 0)) fun t49=>
bR W R N E P x0 x2 x5 x6 t49 h
def ck:N3:=fun W R N E P x0 x2 x5 h=>
(aY x0=false)/\bL x0 fun t50=>
aq Pg W 23 [x5,(.sc (.int .i64 0)),t50,(.sc (.int .i64 0)),(.sc (.pointer none))] h (fun t51 pb=>
b5 W R N E P x0 x2 x5 t51 pb) P
def cp:N2:=fun W R N E P x0 x2 h=>
aq Pg W 22 [x0] h (fun t53 D5=>
ck W R N E P x0 x2 t53 D5) P
def cP:N1:=fun W R N E P x0 h=>
bx (some [.int .i64 0,.int .i64 0,.slice none 0 0]) 3 25 h fun t55 Gl=>
cp W R N E P x0 t55 Gl
theorem aM{x0:AV}{h:AH}{M:WK}{R:RK}(hp:cP (fun id=>M id\/h.next<=id) (aJ Pg [.cell 2 25,.tmp 3,.tmp 4] R) (aJ Pg [.cell 2 25,.tmp 3,.tmp 4] R) (fun _ _ _=>False) (fun v h=>R (.bW v) h) x0 h):aA Pg 11 [x0] h M R:=
 fin (n:=66) (pl:=[(4,⟨[(none,[(0,false),(1,false),(2,false),(3,false),(4,true),(5,false),(6,false),(7,false),(8,false)])],true,[],[]⟩),(6,⟨[(none,[(0,false),(1,false),(2,false),(3,false),(4,true),(5,false),(6,false),(7,false)])],true,[],[]⟩),(10,⟨[(none,[(0,false),(1,false),(2,false),(3,false),(4,true),(5,false),(6,false),(7,true),(8,false),(9,false),(10,false),(11,false)])],true,[],[]⟩)]) (rs:=[.cell 2 25,.tmp 3,.tmp 4]) (L:=rs) (fun c=>(a1 cP 0 c)) Tryz.mixed Tryz.func11 (fun c=>
(sq (a1 cP 0 c)
(sq (a2 cp 0 2 c)
(sn
(sn
(sn
(sl (a2 n1 2 5 c))
(sq (a2 n9 2 5 c)
(sq (a4 n8 2 5 7 8 c)
(cd (a5 n7 2 5 7 8 43 c) (sn
(sl (a2 n2 2 8 c))
(sq (a4 n6 2 5 7 8 c)
(cd (a5 n5 2 5 7 8 50 c) (sn
(sm (a3 n3 2 3 4 c))
(sm (a4 n4 2 5 7 8 c))) tr))) tr))))
(sq (a3 bH 0 2 5 c)
(cd (a3 a_ 2 5 28 c) (sn
(sm (a3 aS 2 3 4 c))
(sm (a2 bj 2 5 c))) tr)))
(sq (a3 ck 0 2 5 c)
(sq (a4 b5 0 2 5 6 c)
(cd (a5 bR 0 2 5 6 16 c) (sn
(sm (a3 bP 2 3 4 c))
(sm (a3 bV 2 5 6 c))) tr))))))) hp
attribute [simp] n1 n2 n3 n4 n5 n6 n7 n8 n9 aS bj a_ bH bP bV bR b5 ck cp cP
end lK
namespace Ri
abbrev rs:List Nat:=[2]
def n1:N1:=fun _ R _ _ _ x0 h=>
rH 73 h fun t1 h2=>
rH 73 h2 fun t3 h4=>
rH 74 h4 fun t5 h6=>
cN (some ([.slice none 0 0,.map none,.map none,.map none,.slice none 0 0,.int .i64 0,.int .i64 0,.slice none 0 0,.int .i64 0],.inl [(0,1),(1,1),(2,1),(3,1),(4,1),(5,3),(8,1)])) [(0,x0),(1,t1),(2,t3),(3,t5)] fun t7=>
eR 9 76 t7 h6 fun t8 h9=>
R [t8] h9
def n2:N1:=fun W R N E P x0 h=>
n1 W R N E P x0 h
theorem aM{x0:AV}{h:AH}{M:WK}{R:RK}(hp:n2 (fun id=>M id\/h.next<=id) (aJ Pg [.tmp 2] R) (aJ Pg [.tmp 2] R) (fun _ _ _=>False) (fun v h=>R (.bW v) h) x0 h):aA Pg 22 [x0] h M R:=
 fin (n:=9) (pl:=[]) (rs:=[.tmp 2]) (L:=rs) (fun c=>(a1 n2 0 c)) Tryz.mixed Tryz.func22 (fun c=>
(sq (a1 n2 0 c)
(sl (a1 n1 0 c)))) hp
attribute [simp] n1 n2
end Ri
namespace dP
abbrev rs:List Nat:=[10]
def n1:N0:=fun _ R _ _ _ h=>
R [(.sc (.int .i64 0))] h
def n2:N0:=fun _ R _ _ _ h=>
R [(.sc (.int .i64 100))] h
def n3:N0:=fun _ R _ _ _ h=>
R [(.sc (.int .i64 102))] h
def n4:N0:=fun _ R _ _ _ h=>
R [(.sc (.int .i64 100))] h
def n5:N0:=fun _ R _ _ _ h=>
R [(.sc (.int .i64 100))] h
def n6:N1:=fun W R N E P wZ h=>
aF wZ (
n5 W R N E P h) (
n1 W R N E P h)
def n7:N2:=fun W R N E P gP EJ h=>
aO gP EJ (.sc (.bool false)) fun t1=>
n6 W R N E P t1 h
def n8:N2:=fun W R N E P x6 gP h=>
bw true gP (
ah (some 0) x6 fun t2=>
ao (some false) (some 1) t2 h fun t3 _=>
ai Pg .neq 9 true t3 (.sc (.string ⟨#[114,101,112,101,97,116]⟩)) fun t5=>
n7 W R N E P gP t5 h) (
n7 W R N E P gP ab h)
def n9:N3:=fun W R N E P x6 A6 Tg h=>
aO A6 Tg (.sc (.bool false)) fun t6=>
n8 W R N E P x6 t6 h
def aS:N2:=fun W R N E P x6 A6 h=>
bw true A6 (
ah (some 0) x6 fun t7=>
ao (some false) (some 1) t7 h fun t8 _=>
ai Pg .neq 9 true t8 (.sc (.string ⟨#[117,115,101]⟩)) fun t10=>
n9 W R N E P x6 A6 t10 h) (
n9 W R N E P x6 A6 ab h)
def bj:N2:=fun W R N E P x4 x6 h=>
ai Pg .neq 112 true x4 (.sc (.pointer none)) fun t11=>
aS W R N E P x6 t11 h
def a_:N3:=fun W R N E P x4 x6 kR h=>
aF kR (
n4 W R N E P h) (
bj W R N E P x4 x6 h)
def bH:N4:=fun W R N E P x4 x6 gZ A7 h=>
aO gZ A7 (.sc (.bool false)) fun t12=>
a_ W R N E P x4 x6 t12 h
def bP:N5:=fun W R N E P x4 x6 gZ A8 EL h=>
bw true gZ (
aO A8 (.sc (.bool true)) EL fun t13=>
bH W R N E P x4 x6 gZ t13 h) (
bH W R N E P x4 x6 gZ ab h)
def bV:N4:=fun W R N E P x4 x6 gZ A8 h=>
bw false A8 (
ah (some 0) x6 fun t14=>
ao (some false) (some 1) t14 h fun t15 _=>
ai Pg .eql 9 true t15 (.sc (.string ⟨#[103,97,116,101]⟩)) fun t17=>
bP W R N E P x4 x6 gZ A8 t17 h) (
bP W R N E P x4 x6 gZ A8 ab h)
def bR:N5:=fun W R N E P x4 x6 gZ fY pi h=>
bw true gZ (
aO fY (.sc (.bool true)) pi fun t18=>
bV W R N E P x4 x6 gZ t18 h) (
bV W R N E P x4 x6 gZ ab h)
def b5:N4:=fun W R N E P x4 x6 gZ fY h=>
bw false fY (
ah (some 0) x6 fun t19=>
ao (some false) (some 1) t19 h fun t20 _=>
ai Pg .eql 9 true t20 (.sc (.string ⟨#[98,105,116,115]⟩)) fun t22=>
bR W R N E P x4 x6 gZ fY t22 h) (
bR W R N E P x4 x6 gZ fY ab h)
def ck:N3:=fun W R N E P x4 x6 gZ h=>
bw true gZ (
ah (some 0) x6 fun t23=>
ao (some false) (some 1) t23 h fun t24 _=>
ai Pg .eql 9 true t24 (.sc (.string ⟨#[113,117,98,105,116,115]⟩)) fun t26=>
b5 W R N E P x4 x6 gZ t26 h) (
b5 W R N E P x4 x6 gZ ab h)
def cp:N3:=fun W R N E P x3 x4 x6 h=>
ai Pg .gtr 3 true x3 (.sc (.int .i64 0)) fun t27=>
ck W R N E P x4 x6 t27 h
def cP:N4:=fun W R N E P x3 x4 x6 w8 h=>
aF w8 (
n3 W R N E P h) (
cp W R N E P x3 x4 x6 h)
def cT:N3:=fun W R N E P x3 x4 x6 h=>
ai Pg .gtr 3 true x3 (.sc (.int .i64 32)) fun t28=>
cP W R N E P x3 x4 x6 t28 h
def cw:N4:=fun W R N E P x3 x4 x6 ay h=>
aF ay (
n2 W R N E P h) (
cT W R N E P x3 x4 x6 h)
def cL:N5:=fun W R N E P x3 x4 x6 jy lb h=>
aO jy (.sc (.bool true)) lb fun t29=>
cw W R N E P x3 x4 x6 t29 h
def cS:N5:=fun W R N E P x2 x3 x4 x6 jy h=>
bw false jy (
ah (some 4) x6 fun t30=>
ao (some false) (some 1) t30 h fun t31 _=>
ai Pg .gtr 3 false t31 x2 fun t33=>
cL W R N E P x3 x4 x6 jy t33 h) (
cL W R N E P x3 x4 x6 jy ab h)
def cF:N6:=fun W R N E P x2 x3 x4 x6 w_ w9 h=>
aO w_ (.sc (.bool true)) w9 fun t34=>
cS W R N E P x2 x3 x4 x6 t34 h
def cC:N5:=fun W R N E P x2 x3 x4 x6 w_ h=>
bw false w_ (
ah (some 4) x6 fun t35=>
ao (some false) (some 1) t35 h fun t36 _=>
ai Pg .lss 3 true t36 (.sc (.int .i64 0)) fun t38=>
cF W R N E P x2 x3 x4 x6 w_ t38 h) (
cF W R N E P x2 x3 x4 x6 w_ ab h)
def cB:N6:=fun W R N E P x2 x3 x4 x6 du oR h=>
aO du (.sc (.bool true)) oR fun t39=>
cC W R N E P x2 x3 x4 x6 t39 h
def c9:N7:=fun W R N E P x2 x3 x4 x6 du qV kl h=>
bw false du (
aO qV kl (.sc (.bool false)) fun t40=>
cB W R N E P x2 x3 x4 x6 du t40 h) (
cB W R N E P x2 x3 x4 x6 du ab h)
def cU:N6:=fun W R N E P x2 x3 x4 x6 du qV h=>
bw true qV (
ah (some 4) x6 fun t41=>
ao (some false) (some 1) t41 h fun t42 _=>
ai Pg .neq 3 true t42 (.sc (.int .i64 0)) fun t44=>
c9 W R N E P x2 x3 x4 x6 du qV t44 h) (
c9 W R N E P x2 x3 x4 x6 du qV ab h)
def dn:N5:=fun W R N E P x2 x3 x4 x6 du h=>
bw false du (
ah (some 0) x6 fun t45=>
ao (some false) (some 1) t45 h fun t46 _=>
aq Pg W 84 [t46] h (fun t48 wJ=>
iH .not t48 fun t50=>
cU W R N E P x2 x3 x4 x6 du t50 wJ) P) (
cU W R N E P x2 x3 x4 x6 du ab h)
def dS:N4:=fun W R N E P x2 x3 x4 x6 h=>
ah (some 0) x6 fun t51=>
ao (some false) (some 1) t51 h fun t52 _=>
aq Pg W 83 [t52] h (fun t54 sR=>
iH .not t54 fun t56=>
dn W R N E P x2 x3 x4 x6 t56 sR) P
def dZ:N4:=fun W R N E P x1 x2 x3 x4 h=>
eR 6 87 x1 h fun t57 xZ=>
dS W R N E P x2 x3 x4 t57 xZ
theorem aM{x0 x1 x2 x3 x4:AV}{h:AH}{M:WK}{R:RK}(hp:dZ (fun id=>M id\/h.next<=id) (aJ Pg [.tmp 10] R) (aJ Pg [.tmp 10] R) (fun _ _ _=>False) (fun v h=>R (.bW v) h) x1 x2 x3 x4 h):aA Pg 62 [x0,x1,x2,x3,x4] h M R:=
 fin (n:=72) (pl:=[(1,⟨[(none,(fr 0 5)),(some (4,false),(fr 5 5)),(some (9,true),(fr 10 3)),(some (4,false),(fr 13 1)),(none,(fr 14 2)),(some (15,false),(fr 16 3)),(none,(fr 19 2)),(some (20,false),(fr 21 4)),(none,(fr 25 2))],false,[],[]⟩),(5,⟨[(none,(fr 0 3)),(some (2,true),(fr 3 4)),(some (6,false),(fr 7 3)),(some (2,true),(fr 10 2)),(some (11,false),(fr 12 3)),(some (2,true),(fr 15 1)),(none,(fr 16 2))],false,[],[]⟩),(7,⟨[(none,(fr 0 3)),(some (2,true),(fr 3 3)),(none,(fr 6 2)),(some (7,true),(fr 8 3)),(none,(fr 11 2))],false,[],[]⟩)]) (rs:=[.tmp 10]) (L:=rs) (fun c=>(a4 dZ 1 2 3 4 c)) Tryz.mixed Tryz.func62 (fun c=>
(sq (a4 dZ 1 2 3 4 c)
(sn
(sl (a0 n1 c))
(bk 0 (sn
(cd (a4 cw 3 4 6 11 c) (sl (a0 n2 c)) (sq (a3 cT 3 4 6 c)
(cd (a4 cP 3 4 6 38 c) (sl (a0 n3 c)) (sn
(cd (a3 a_ 4 6 41 c) (sl (a0 n4 c)) (sn
(cd (a1 n6 59 c) (sl (a0 n5 c)) tr)
(gr (gn (a2 bj 4 6 c) (gx (a2 aS 6 62 c) (gn (a3 n9 6 62 65 c) (gx (a2 n8 6 67 c) (gl (a2 n7 67 70 c)))))))))
(gr (gn (a3 cp 3 4 6 c) (gx (a3 ck 4 6 44 c) (gx (a4 b5 4 6 44 48 c) (gx (a5 bR 4 6 44 48 51 c) (gx (a4 bV 4 6 44 53 c) (gx (a5 bP 4 6 44 53 56 c) (gl (a4 bH 4 6 44 57 c)))))))))))))
(gr (gn (a4 dS 2 3 4 6 c) (gx (a5 dn 2 3 4 6 16 c) (gx (a6 cU 2 3 4 6 16 21 c) (gx (a7 c9 2 3 4 6 16 21 24 c) (gn (a6 cB 2 3 4 6 16 25 c) (gx (a5 cC 2 3 4 6 27 c) (gn (a6 cF 2 3 4 6 27 30 c) (gx (a5 cS 2 3 4 6 32 c) (gl (a5 cL 3 4 6 32 36 c)))))))))))))))) hp
attribute [simp] n1 n2 n3 n4 n5 n6 n7 n8 n9 aS bj a_ bH bP bV bR b5 ck cp cP cT cw cL cS cF cC cB c9 cU dn dS dZ
end dP
namespace Rg
abbrev rs:List Nat:=[2]
def n1:N1:=fun W R _ _ P x0 h=>
aq Pg W 84 [x0] h (fun t1 h2=>
R [t1] h2) P
def n3:N2:=fun W R N E P x0 x4 h=>
aF x4 (
R [(.sc (.bool true))] h) (
n1 W R N E P x0 h)
def bH:N1:=fun W R N E P x0 h=>
ai Pg .eql 9 true x0 (.sc (.string ⟨#[113,117,98,105,116,115]⟩)) fun t7=>
aF t7 (
n3 W R N E P x0 t7 h) (
ai Pg .eql 9 true x0 (.sc (.string ⟨#[98,105,116,115]⟩)) fun t6=>
aF t6 (
n3 W R N E P x0 t6 h) (
ai Pg .eql 9 true x0 (.sc (.string ⟨#[117,115,101]⟩)) fun t5=>
aF t5 (
n3 W R N E P x0 t5 h) (
ai Pg .eql 9 true x0 (.sc (.string ⟨#[109,101,97,115,117,114,101]⟩)) fun t4=>
aF t4 (
n3 W R N E P x0 t4 h) (
ai Pg .eql 9 true x0 (.sc (.string ⟨#[114,101,115,101,116]⟩)) fun t3=>
n3 W R N E P x0 t3 h))))
theorem aM{x0:AV}{h:AH}{M:WK}{R:RK}(hp:bH (fun id=>M id\/h.next<=id) (aJ Pg [.tmp 2] R) (aJ Pg [.tmp 2] R) (fun _ _ _=>False) (fun v h=>R (.bW v) h) x0 h):aA Pg 83 [x0] h M R:=
 fin (n:=12) (pl:=[]) (rs:=[.tmp 2]) (L:=rs) (fun c=>(a1 bH 0 c)) Tryz.mixed Tryz.func83 (fun c=>
(sq (a1 bH 0 c)
(sn
(sl (a1 n1 0 c))
(si (bk 0 (sn
(cd (a2 n3 0 4 c) tr tr)
(si (ci tr (si (ci tr (si (ci tr (si (ci tr tr)))))))))))))) hp
attribute [simp] n1 n3 bH
end Rg
namespace YA
abbrev rs:List Nat:=[2]
def n2:N2:=fun _ R _ _ _ x9 ay h=>
aO x9 (.sc (.bool true)) ay fun t1=>
R [t1] h
def n4:N3:=fun W R N E P x0 x5 x7 h=>
aO x5 (.sc (.bool true)) x7 fun t3=>
bw false t3 (
ai Pg .eql 9 true x0 (.sc (.string ⟨#[105,102]⟩)) fun t2=>
n2 W R N E P t3 t2 h) (
n2 W R N E P t3 ab h)
def n7:N1:=fun W R N E P x0 h=>
ai Pg .eql 9 true x0 (.sc (.string ⟨#[103,97,116,101]⟩)) fun t5=>
bw false t5 (
ai Pg .eql 9 true x0 (.sc (.string ⟨#[114,101,112,101,97,116]⟩)) fun t4=>
n4 W R N E P x0 t5 t4 h) (
n4 W R N E P x0 t5 ab h)
theorem aM{x0:AV}{h:AH}{M:WK}{R:RK}(hp:n7 (fun id=>M id\/h.next<=id) (aJ Pg [.tmp 2] R) (aJ Pg [.tmp 2] R) (fun _ _ _=>False) (fun v h=>R (.bW v) h) x0 h):aA Pg 84 [x0] h M R:=
 fin (n:=13) (pl:=[(1,⟨[(none,(fr 0 3)),(some (2,false),(fr 3 2)),(none,(fr 5 2)),(some (6,false),(fr 7 2)),(none,(fr 9 2))],false,[],[]⟩)]) (rs:=[.tmp 2]) (L:=rs) (fun c=>(a1 n7 0 c)) Tryz.mixed Tryz.func84 (fun c=>
(sq (a1 n7 0 c)
(sn
tr
(gr (gm (gz (gn (a3 n4 0 5 7 c) (gz (gl (a2 n2 9 11 c)))))))))) hp
attribute [simp] n2 n4 n7
end YA
namespace jM
abbrev rs:List Nat:=[10]
def n2:N2:=fun W R _ _ _ x3 x6 h=>
aH x3 fun t1=>
ao (some false) (some 1) t1 h fun t2 _=>
ah (some 3) x6 fun t4=>
ao (some false) (some 1) t4 h fun t5 _=>
ai Pg .add 3 false t2 t5 fun t7=>
aH x3 fun t8=>
aD (some 1) t8 t7 h W fun h9=>
R [(.sc (.int .i64 0))] h9
def n3:N3:=fun W R N E P x2 x3 x6 h=>
ah (some 1) x6 fun t10=>
ao (some false) (some 1) t10 h fun t11 _=>
aH x3 fun t13=>
ao (some false) (some 1) t13 h fun t14 _=>
ah (some 3) x6 fun t16=>
ao (some false) (some 1) t16 h fun t17 _=>
cN (some ([.int .i64 0,.int .i64 0],.inl [(0,1),(1,1)])) [(0,t14),(1,t17)] fun t19=>
eH Pg (some (9,118)) x2 t11 t19 h W fun rU=>
n2 W R N E P x3 x6 rU
def n4:N0:=fun _ R _ _ _ h=>
R [(.sc (.int .i64 110))] h
def n5:N0:=fun _ R _ _ _ h=>
R [(.sc (.int .i64 112))] h
def n6:N0:=fun _ R _ _ _ h=>
R [(.sc (.int .i64 1))] h
def n7:N4:=fun W R N E P x2 x3 x6 nZ h=>
aF nZ (
n6 W R N E P h) (
n3 W R N E P x2 x3 x6 h)
def n8:N4:=fun W R N E P x2 x3 x4 x6 h=>
ah (some 3) x6 fun t21=>
ao (some false) (some 1) t21 h fun t22 _=>
aH x3 fun t24=>
ao (some false) (some 1) t24 h fun t25 _=>
ai Pg .sub 3 false x4 t25 fun t27=>
ai Pg .gtr 3 false t22 t27 fun t28=>
n7 W R N E P x2 x3 x6 t28 h
def n9:N5:=fun W R N E P x2 x3 x4 x6 du h=>
aF du (
n5 W R N E P h) (
n8 W R N E P x2 x3 x4 x6 h)
def aS:N4:=fun W R N E P x2 x3 x4 x6 h=>
ah (some 3) x6 fun t29=>
ao (some false) (some 1) t29 h fun t30 _=>
ai Pg .lss 3 true t30 (.sc (.int .i64 1)) fun t32=>
n9 W R N E P x2 x3 x4 x6 t32 h
def bj:N5:=fun W R N E P x2 x3 x4 x6 ay h=>
aF ay (
n4 W R N E P h) (
aS W R N E P x2 x3 x4 x6 h)
def a_:N5:=fun W R N E P x0 x2 x3 x4 x6 h=>
ah (some 1) x6 fun t33=>
ao (some false) (some 1) t33 h fun t34 _=>
aq Pg W 98 [x0,t34] h (fun t36 tX=>
bj W R N E P x2 x3 x4 x6 t36 tX) P
def bH:N5:=fun W R N E P x0 x1 x2 x3 x4 h=>
eR 6 87 x1 h fun t38 tW=>
a_ W R N E P x0 x2 x3 x4 t38 tW
theorem aM{x0 x1 x2 x3 x4:AV}{h:AH}{M:WK}{R:RK}(hp:bH (fun id=>M id\/h.next<=id) (aJ Pg [.tmp 10] R) (aJ Pg [.tmp 10] R) (fun _ _ _=>False) (fun v h=>R (.bW v) h) x0 x1 x2 x3 x4 h):aA Pg 85 [x0,x1,x2,x3,x4] h M R:=
 fin (n:=45) (pl:=[(5,⟨[(none,(fr 0 9))],false,[],[]⟩),(7,⟨[(none,(fr 0 10))],false,[],[]⟩),(8,⟨[(none,(fr 0 8))],false,[],[]⟩)]) (rs:=[.tmp 10]) (L:=rs) (fun c=>(a5 bH 0 1 2 3 4 c)) Tryz.mixed Tryz.func85 (fun c=>
(sq (a5 bH 0 1 2 3 4 c)
(sn
(sq (a3 n3 2 3 6 c)
(sq (a2 n2 3 6 c)
tr))
(bk 0 (sq (a5 a_ 0 2 3 4 6 c)
(cd (a5 bj 2 3 4 6 11 c) (sl (a0 n4 c)) (sq (a4 aS 2 3 4 6 c)
(cd (a5 n9 2 3 4 6 16 c) (sl (a0 n5 c)) (sq (a4 n8 2 3 4 6 c)
(cd (a4 n7 2 3 6 20 c) (sl (a0 n6 c)) tr)))))))))) hp
attribute [simp] n2 n3 n4 n5 n6 n7 n8 n9 aS bj a_ bH
end jM
namespace gO
abbrev rs:List Nat:=[6]
def n2:N3:=fun W R _ _ _ x0 x4 x7 h=>
aH x0 fun t1=>
ah (some 3) t1 fun t2=>
ao (some false) (some 1) t2 h fun t3 _=>
ah (some 1) x4 fun t5=>
ao (some false) (some 1) t5 h fun t6 _=>
eH Pg (some (9,112)) t3 t6 x7 h W fun h8=>
R [(.sc (.int .i64 0))] h8
def n3:N7:=fun _ _ N _ _ x0 x4 x7 ax kh fY jO h=>
ai Pg .add 3 true jO (.sc (.int .i64 1)) fun t9=>
N [x0,x4,x7,ax,kh,fY,t9] h
def n4:N8:=fun W R N E P x0 x4 x7 ax aG kh fY jO h=>
aH x7 fun t10=>
ah (some 1) t10 fun t11=>
ao (some false) (some 1) t11 h fun t12 _=>
ah (some 0) aG fun t14=>
ao (some false) (some 1) t14 h fun t15 _=>
dG (some (1,9,[.string ⟨#[]⟩])) 1 [(0,t15)] h fun t17 rV=>
fE (some (1,16,9)) t12 t17 rV W fun t19 rU=>
aH x7 fun t21=>
ah (some 1) t21 fun t22=>
aD (some 1) t22 t19 rU W fun wQ=>
n3 W R N E P x0 x4 x7 ax kh fY jO wQ
def n5:N9:=fun W R N E P x0 x4 x7 ax ay aG kh fY jO h=>
ah (some 0) aG fun t24=>
ao (some false) (some 1) t24 h fun t25 _=>
eH Pg (some (9,3)) ax t25 ay h W fun qd=>
n4 W R N E P x0 x4 x7 ax aG kh fY jO qd
def n7:ru:=fun W R N E P x0 x4 x7 ax ay aG kh fY jO Th h=>
aF Th (
R [(.sc (.int .i64 113))] h) (
n5 W R N E P x0 x4 x7 ax ay aG kh fY jO h)
def n8:ru:=fun W R N E P x0 x4 x7 ax ay aG aX kh fY jO h=>
n7 W R N E P x0 x4 x7 ax ay aG kh fY jO aX h
def n9:N9:=fun W R N E P x0 x4 x7 ax ay aG kh fY jO h=>
ah (some 0) aG fun t28=>
ao (some false) (some 1) t28 h fun t29 _=>
hG Pg (some (9,3)) ax t29 true h fun t31 _=>
cW t31 0 fun t33=>
cW t31 1 fun t34=>
n8 W R N E P x0 x4 x7 ax ay aG t34 kh fY jO h
def aS:N7:=fun W R N E P x0 x4 x7 ax kh fY jO h=>
bB (some (2,none)) kh jO fun t35=>
ao (some true) (some 2) t35 h fun t36 _=>
bx (some [.string ⟨#[]⟩,.int .i64 0]) 2 92 h fun t38 tW=>
aD (some 2) t38 t36 tW W fun zx=>
n9 W R N E P x0 x4 x7 ax jO t38 kh fY jO zx
def bj:N8:=fun W R N E P x0 x4 x7 ax kh fY jO lL h=>
aF lL (
aS W R N E P x0 x4 x7 ax kh fY jO h) (
E 2 [x0,x4,x7] h)
def a_:N7:=fun W R N E P x0 x4 x7 ax kh fY jO h=>
ai Pg .lss 3 false jO fY fun t41=>
bj W R N E P x0 x4 x7 ax kh fY jO t41 h
def cG:GK:=fun W R N E P N' vs h=>a_ W R N' (fun(i:Nat) (vs:List AV) (h:AH)=>if i=2 then n2 W R N E P (vs.getD 0 ab) (vs.getD 1 ab) (vs.getD 2 ab) h else E i vs h) P (vs.getD 0 ab) (vs.getD 1 ab) (vs.getD 2 ab) (vs.getD 3 ab) (vs.getD 4 ab) (vs.getD 5 ab) (vs.getD 6 ab) h
def bH:N7:=fun W R N E P x0 x4 x7 ax kh fY jO h=>
dK (cG W R N E P) [x0,x4,x7,ax,kh,fY,jO] h
def bP:N4:=fun W R N E P x0 x4 x7 ax h=>
ah (some 2) x4 fun t42=>
ao (some false) (some 1) t42 h fun t43 _=>
(aY t43=false)/\bL t43 fun t45=>
bH W R N E P x0 x4 x7 ax t43 t45 (.sc (.int .i64 0)) h
def bV:N3:=fun W R N E P x0 x4 x7 h=>
rH 135 h fun t46 wK=>
bP W R N E P x0 x4 x7 t46 wK
def bR:N6:=fun _ _ N _ _ x0 x4 x7 pS lb l9 h=>
ai Pg .add 3 true l9 (.sc (.int .i64 1)) fun t48=>
N [x0,x4,x7,pS,lb,t48] h
def ck:N7:=fun W R N E P x0 x4 x7 pS lb l9 nI h=>
aF nI (
R [(.sc (.int .i64 112))] h) (
bR W R N E P x0 x4 x7 pS lb l9 h)
def cp:N7:=fun W R N E P x0 x4 x7 x9 pS lb l9 h=>
ah (some 1) x9 fun t49=>
ao (some false) (some 1) t49 h fun t50 _=>
ai Pg .neq 3 true t50 (.sc (.int .i64 (-1))) fun t52=>
ck W R N E P x0 x4 x7 pS lb l9 t52 h
def cP:N6:=fun W R N E P x0 x4 x7 pS lb l9 h=>
bB (some (2,none)) pS l9 fun t53=>
ao (some true) (some 2) t53 h fun t54 _=>
bx (some [.string ⟨#[]⟩,.int .i64 0]) 2 92 h fun t56 tT=>
aD (some 2) t56 t54 tT W fun xZ=>
cp W R N E P x0 x4 x7 t56 pS lb l9 xZ
def cT:N7:=fun W R N E P x0 x4 x7 pS lb l9 w8 h=>
aF w8 (
cP W R N E P x0 x4 x7 pS lb l9 h) (
E 0 [x0,x4,x7] h)
def cw:N6:=fun W R N E P x0 x4 x7 pS lb l9 h=>
ai Pg .lss 3 false l9 lb fun t59=>
cT W R N E P x0 x4 x7 pS lb l9 t59 h
def iX:GK:=fun W R N E P N' vs h=>cw W R N' (fun(i:Nat) (vs:List AV) (h:AH)=>if i=0 then bV W R N E P (vs.getD 0 ab) (vs.getD 1 ab) (vs.getD 2 ab) h else E i vs h) P (vs.getD 0 ab) (vs.getD 1 ab) (vs.getD 2 ab) (vs.getD 3 ab) (vs.getD 4 ab) (vs.getD 5 ab) h
def cL:N6:=fun W R N E P x0 x4 x7 pS lb l9 h=>
dK (iX W R N E P) [x0,x4,x7,pS,lb,l9] h
def cS:N3:=fun W R N E P x0 x4 x7 h=>
ah (some 2) x4 fun t60=>
ao (some false) (some 1) t60 h fun t61 _=>
(aY t61=false)/\bL t61 fun t63=>
cL W R N E P x0 x4 x7 t61 t63 (.sc (.int .i64 0)) h
def cF:N3:=fun W R N E P x0 x2 x4 h=>
ah (some 1) x4 fun t64=>
ao (some false) (some 1) t64 h fun t65 _=>
ai Pg .add 3 true x2 (.sc (.int .i64 1)) fun t67=>
ai Pg .add 3 true x2 (.sc (.int .i64 1)) fun t68=>
ah (some 4) x4 fun t69=>
ao (some false) (some 1) t69 h fun t70 _=>
ai Pg .add 3 false t68 t70 fun t72=>
cN (some ([.string ⟨#[]⟩,.slice none 0 0,.int .i64 0,.int .i64 0,.int .i64 0,.int .i64 0,.bool false],.inl [(0,1),(1,1),(2,1),(3,1),(4,1),(5,1),(6,1)])) [(0,t65),(2,t67),(3,t72),(4,(.sc (.int .i64 1)))] fun t73=>
eR 7 116 t73 h fun t74 LH=>
cS W R N E P x0 x4 t74 LH
def cC:N0:=fun _ R _ _ _ h=>
R [(.sc (.int .i64 111))] h
def cB:N4:=fun W R N E P x0 x2 x4 EP h=>
aF EP (
cC W R N E P h) (
cF W R N E P x0 x2 x4 h)
def c9:N3:=fun W R N E P x0 x2 x4 h=>
ah (some 2) x4 fun t76=>
ao (some false) (some 1) t76 h fun t77 _=>
(aY t77=false)/\bL t77 fun t79=>
ai Pg .eql 3 true t79 (.sc (.int .i64 0)) fun t80=>
cB W R N E P x0 x2 x4 t80 h
def cU:N0:=fun _ R _ _ _ h=>
R [(.sc (.int .i64 110))] h
def dn:N4:=fun W R N E P x0 x2 x4 fj h=>
aF fj (
cU W R N E P h) (
c9 W R N E P x0 x2 x4 h)
def dS:N3:=fun W R N E P x0 x2 x4 h=>
ah (some 1) x4 fun t81=>
ao (some false) (some 1) t81 h fun t82 _=>
aq Pg W 98 [x0,t82] h (fun t84 ri=>
dn W R N E P x0 x2 x4 t84 ri) P
def dZ:N3:=fun W R N E P x0 x1 x2 h=>
eR 6 87 x1 h fun t86 Ca=>
dS W R N E P x0 x2 t86 Ca
theorem aM{x0 x1 x2:AV}{h:AH}{M:WK}{R:RK}(hp:dZ (fun id=>M id\/h.next<=id) (aJ Pg [.tmp 6] R) (aJ Pg [.tmp 6] R) (fun _ _ _=>False) (fun v h=>R (.bW v) h) x0 x1 x2 h):aA Pg 86 [x0,x1,x2] h M R:=
 fin (n:=85) (pl:=[(20,⟨[(none,(fr 0 12))],false,[],[]⟩),(22,⟨[(none,(fr 0 8))],false,[],[]⟩)]) (rs:=[.tmp 6]) (L:=rs) (fun c=>(a3 dZ 0 1 2 c)) Tryz.mixed Tryz.func86 (fun c=>
(sq (a3 dZ 0 1 2 c)
(sn
(sn
(sq (a3 cF 0 2 4 c)
(sn
(sq (a3 bV 0 4 7 c)
(sn
(sq (a3 n2 0 4 7 c)
tr)
(sq (a4 bP 0 4 7 10 c)
(bk 2 (lp [0,4,7,10,47,48,49] rs [(2,[0,4,7])] (a7 bH 0 4 7 10 47 48 49 c) cG (fun i vs h=>if i=2 then n2 c.W c.R c.N c.E c.P (vs.getD 0 ab) (vs.getD 1 ab) (vs.getD 2 ab) h else c.E i vs h) (.b (.t .o)) fun c=>
(sq (a7 a_ 0 4 7 10 47 48 49 c)
(sn
(sn
(sm (a7 n3 0 4 7 10 47 48 49 c))
(bk 3 (sq (a7 aS 0 4 7 10 47 48 49 c)
(sn
(sq (a9 n5 0 4 7 10 11 12 47 48 49 c)
(sm (a8 n4 0 4 7 10 12 47 48 49 c)))
(sq (a9 n9 0 4 7 10 11 12 47 48 49 c)
(sq (rY n8 0 4 7 10 11 12 14 47 48 49 c)
(cd (rY n7 0 4 7 10 11 12 47 48 49 61 c) tr tr)))))))
(cd (a8 bj 0 4 7 10 47 48 49 50 c) tr tr))))))))
(sq (a3 cS 0 4 7 c)
(bk 0 (lp [0,4,7,35,36,37] rs [(0,[0,4,7])] (a6 cL 0 4 7 35 36 37 c) iX (fun i vs h=>if i=0 then bV c.W c.R c.N c.E c.P (vs.getD 0 ab) (vs.getD 1 ab) (vs.getD 2 ab) h else c.E i vs h) (.b (.t .o)) fun c=>
(sq (a6 cw 0 4 7 35 36 37 c)
(sn
(sn
(sm (a6 bR 0 4 7 35 36 37 c))
(bk 1 (sq (a6 cP 0 4 7 35 36 37 c)
(sq (a7 cp 0 4 7 9 35 36 37 c)
(cd (a7 ck 0 4 7 35 36 37 43 c) tr tr)))))
(cd (a7 cT 0 4 7 35 36 37 38 c) tr tr))))))))
(sq (a3 c9 0 2 4 c)
(cd (a4 cB 0 2 4 22 c) (sl (a0 cC c)) tr)))
(sq (a3 dS 0 2 4 c)
(cd (a4 dn 0 2 4 18 c) (sl (a0 cU c)) tr))))) hp
attribute [simp] n2 n3 n4 n5 n7 n8 n9 aS bj a_ bP bV bR ck cp cP cT cw cS cF cC cB c9 cU dn dS dZ
end gO
namespace c7
abbrev rs:List Nat:=[6]
def n1:N0:=fun _ R _ _ _ h=>
R [(.sc (.int .i64 0))] h
def n2:N2:=fun W R N E P x2 x8 h=>
aH x2 fun t1=>
ah (some 4) t1 fun t2=>
ao (some false) (some 1) t2 h fun t3 _=>
ai Pg .add 3 true x8 (.sc (.int .i64 1)) fun t5=>
rL false t3 t5 fun t6=>
aH x2 fun t7=>
ah (some 4) t7 fun t8=>
aD (some 1) t8 t6 h W fun h9=>
n1 W R N E P h9
def n3:N0:=fun _ R _ _ _ h=>
R [(.sc (.int .i64 102))] h
def n4:N3:=fun W R N E P x2 x8 Zi h=>
aF Zi (
n3 W R N E P h) (
n2 W R N E P x2 x8 h)
def n5:N2:=fun W R N E P x2 x8 h=>
ai Pg .add 3 true x8 (.sc (.int .i64 1)) fun t10=>
ai Pg .gtr 3 true t10 (.sc (.int .i64 32)) fun t11=>
n4 W R N E P x2 x8 t11 h
def n6:N3:=fun W R N E P x2 x8 MI h=>
aF MI (
n5 W R N E P x2 x8 h) (
n1 W R N E P h)
def n7:N2:=fun W R N E P x2 x8 h=>
ai Pg .neq 112 true x2 (.sc (.pointer none)) fun t12=>
n6 W R N E P x2 x8 t12 h
def n8:N6:=fun _ _ N _ _ x2 x8 aX jx ji jE h=>
ai Pg .add 3 true jE (.sc (.int .i64 1)) fun t13=>
N [x2,x8,aX,jx,ji,t13] h
def n9:N8:=fun W R N E P x2 x8 aX bC du jx ji jE h=>
ao (some true) (some 2) du h fun t14 _=>
eH Pg (some (92,3)) aX t14 bC h W fun rW=>
n8 W R N E P x2 x8 aX jx ji jE rW
def bj:N9:=fun W R N E P x2 x8 aX bC du jx ji jE Zk h=>
aF Zk (
R [(.sc (.int .i64 113))] h) (
n9 W R N E P x2 x8 aX bC du jx ji jE h)
def a_:N9:=fun W R N E P x2 x8 aX bC du fj jx ji jE h=>
bj W R N E P x2 x8 aX bC du jx ji jE fj h
def bH:N8:=fun W R N E P x2 x8 aX bC du jx ji jE h=>
ao (some true) (some 2) du h fun t17 _=>
hG Pg (some (92,3)) aX t17 true h fun t19 _=>
cW t19 0 fun t21=>
cW t19 1 fun t22=>
a_ W R N E P x2 x8 aX bC du t22 jx ji jE h
def bP:N6:=fun W R N E P x2 x8 aX jx ji jE h=>
bB (some (2,none)) jx jE fun t23=>
ao (some true) (some 2) t23 h fun t24 _=>
bx (some [.string ⟨#[]⟩,.int .i64 0]) 2 92 h fun t26 qd=>
aD (some 2) t26 t24 qd W fun qc=>
bH W R N E P x2 x8 aX jE t26 jx ji jE qc
def bV:N7:=fun W R N E P x2 x8 aX jx ji jE Zn h=>
aF Zn (
bP W R N E P x2 x8 aX jx ji jE h) (
E 2 [x2,x8] h)
def bR:N6:=fun W R N E P x2 x8 aX jx ji jE h=>
ai Pg .lss 3 false jE ji fun t29=>
bV W R N E P x2 x8 aX jx ji jE t29 h
def cG:GK:=fun W R N E P N' vs h=>bR W R N' (fun(i:Nat) (vs:List AV) (h:AH)=>if i=2 then n7 W R N E P (vs.getD 0 ab) (vs.getD 1 ab) h else E i vs h) P (vs.getD 0 ab) (vs.getD 1 ab) (vs.getD 2 ab) (vs.getD 3 ab) (vs.getD 4 ab) (vs.getD 5 ab) h
def b5:N6:=fun W R N E P x2 x8 aX jx ji jE h=>
dK (cG W R N E P) [x2,x8,aX,jx,ji,jE] h
def ck:N4:=fun W R N E P x2 x4 x8 aX h=>
ah (some 2) x4 fun t30=>
ao (some false) (some 1) t30 h fun t31 _=>
(aY t31=false)/\bL t31 fun t33=>
b5 W R N E P x2 x8 aX t31 t33 (.sc (.int .i64 0)) h
def cp:N3:=fun W R N E P x2 x4 x8 h=>
rH 143 h fun t34 kK=>
ck W R N E P x2 x4 x8 t34 kK
def cP:N7:=fun _ _ N _ _ x0 x2 x4 x8 gP gM jc h=>
ai Pg .add 3 true jc (.sc (.int .i64 1)) fun t36=>
N [x0,x2,x4,x8,gP,gM,t36] h
def cw:N8:=fun W R N E P x0 x2 x4 x8 gP gM jc JT h=>
aF JT (
R [(.sc (.int .i64 110))] h) (
cP W R N E P x0 x2 x4 x8 gP gM jc h)
def cL:N8:=fun W R N E P x0 x2 x4 x8 aG gP gM jc h=>
aH x2 fun t37=>
ah (some 1) t37 fun t38=>
ao (some false) (some 1) t38 h fun t39 _=>
ah (some 0) aG fun t41=>
ao (some false) (some 1) t41 h fun t42 _=>
aq Pg pT 99 [t39,t42] h (fun t44 rS=>
iH .not t44 fun t46=>
cw W R N E P x0 x2 x4 x8 gP gM jc t46 rS) P
def cF:N9:=fun W R N E P x0 x2 x4 x8 aG gP gM jc EH h=>
aF EH (
R [(.sc (.int .i64 112))] h) (
cL W R N E P x0 x2 x4 x8 aG gP gM jc h)
def cC:N8:=fun W R N E P x0 x2 x4 x8 aG gP gM jc h=>
ah (some 1) aG fun t47=>
ao (some false) (some 1) t47 h fun t48 _=>
ai Pg .neq 3 true t48 (.sc (.int .i64 (-1))) fun t50=>
cF W R N E P x0 x2 x4 x8 aG gP gM jc t50 h
def cB:N7:=fun W R N E P x0 x2 x4 x8 gP gM jc h=>
cP W R N E P x0 x2 x4 x8 gP gM jc h
def cU:N9:=fun W R N E P x0 x2 x4 x8 bg gP gM jc l8 h=>
aF l8 (
R [bg] h) (
cB W R N E P x0 x2 x4 x8 gP gM jc h)
def dn:N8:=fun W R N E P x0 x2 x4 x8 bg gP gM jc h=>
ai Pg .neq 28 true bg (.sc (.int .i64 0)) fun t51=>
cU W R N E P x0 x2 x4 x8 bg gP gM jc t51 h
def dS:N8:=fun W R N E P x0 x2 x4 x8 aG gP gM jc h=>
aH x0 fun t52=>
ah (some 1) t52 fun t53=>
ao (some false) (some 1) t53 h fun t54 _=>
ao (some true) (some 2) aG h fun t56 _=>
aq Pg pT 88 [t54,t56] h (fun t58 xY=>
dn W R N E P x0 x2 x4 x8 t58 gP gM jc xY) P
def dZ:N9:=fun W R N E P x0 x2 x4 x8 aG gP gM jc Tf h=>
aF Tf (
dS W R N E P x0 x2 x4 x8 aG gP gM jc h) (
cC W R N E P x0 x2 x4 x8 aG gP gM jc h)
def eC:N8:=fun W R N E P x0 x2 x4 x8 aG gP gM jc h=>
ai Pg .eql 112 true x2 (.sc (.pointer none)) fun t60=>
dZ W R N E P x0 x2 x4 x8 aG gP gM jc t60 h
def fl:N7:=fun W R N E P x0 x2 x4 x8 gP gM jc h=>
bB (some (2,none)) gP jc fun t61=>
ao (some true) (some 2) t61 h fun t62 _=>
bx (some [.string ⟨#[]⟩,.int .i64 0]) 2 92 h fun t64 Gj=>
aD (some 2) t64 t62 Gj W fun Gi=>
eC W R N E P x0 x2 x4 x8 t64 gP gM jc Gi
def fM:N8:=fun W R N E P x0 x2 x4 x8 gP gM jc EJ h=>
aF EJ (
fl W R N E P x0 x2 x4 x8 gP gM jc h) (
E 0 [x2,x4,x8] h)
def fu:N7:=fun W R N E P x0 x2 x4 x8 gP gM jc h=>
ai Pg .lss 3 false jc gM fun t67=>
fM W R N E P x0 x2 x4 x8 gP gM jc t67 h
def iX:GK:=fun W R N E P N' vs h=>fu W R N' (fun(i:Nat) (vs:List AV) (h:AH)=>if i=0 then cp W R N E P (vs.getD 0 ab) (vs.getD 1 ab) (vs.getD 2 ab) h else E i vs h) P (vs.getD 0 ab) (vs.getD 1 ab) (vs.getD 2 ab) (vs.getD 3 ab) (vs.getD 4 ab) (vs.getD 5 ab) (vs.getD 6 ab) h
def fD:N7:=fun W R N E P x0 x2 x4 x8 gP gM jc h=>
dK (iX W R N E P) [x0,x2,x4,x8,gP,gM,jc] h
def fL:N4:=fun W R N E P x0 x2 x4 x8 h=>
ah (some 2) x4 fun t68=>
ao (some false) (some 1) t68 h fun t69 _=>
(aY t69=false)/\bL t69 fun t71=>
fD W R N E P x0 x2 x4 x8 t69 t71 (.sc (.int .i64 0)) h
def fk:N0:=fun _ R _ _ _ h=>
R [(.sc (.int .i64 111))] h
def fQ:N5:=fun W R N E P x0 x2 x4 x8 Tg h=>
aF Tg (
fk W R N E P h) (
fL W R N E P x0 x2 x4 x8 h)
def e_:N5:=fun W R N E P x0 x2 x4 x7 x8 h=>
ah (some 2) x4 fun t72=>
ao (some false) (some 1) t72 h fun t73 _=>
(aY t73=false)/\bL t73 fun t75=>
ai Pg .neq 3 false t75 x7 fun t76=>
fQ W R N E P x0 x2 x4 x8 t76 h
def gf:N0:=fun _ R _ _ _ h=>
R [(.sc (.int .i64 80))] h
def fZ:N6:=fun W R N E P x0 x2 x4 x7 x8 uF h=>
aF uF (
gf W R N E P h) (
e_ W R N E P x0 x2 x4 x7 x8 h)
def fC:N5:=fun W R N E P x0 x2 x4 x7 x8 h=>
ai Pg .eql 3 true x7 (.sc (.int .i64 0)) fun t77=>
fZ W R N E P x0 x2 x4 x7 x8 t77 h
def jd:N7:=fun W R N E P x0 x2 x4 x7 x8 x9 jO h=>
aF jO (
aH x9 fun t78=>
ah (some 1) t78 fun t79=>
ao (some false) (some 1) t79 h fun t80 _=>
(aY t80=false)/\bL t80 fun t82=>
aH x9 fun t83=>
ah (some 4) t83 fun t84=>
ao (some false) (some 1) t84 h fun t85 _=>
fC W R N E P x0 x2 x4 t82 t85 h) (
fC W R N E P x0 x2 x4 x7 x8 h)
def gI:N8:=fun W R N E P x0 x2 x4 x7 x8 x9 gZ fY h=>
aO gZ fY (.sc (.bool false)) fun t87=>
jd W R N E P x0 x2 x4 x7 x8 x9 t87 h
def lc:N7:=fun W R N E P x0 x2 x4 x7 x8 x9 gZ h=>
bw true gZ (
aH x9 fun t88=>
ah (some 6) t88 fun t89=>
ao (some false) (some 1) t89 h fun t90 _=>
gI W R N E P x0 x2 x4 x7 x8 x9 gZ t90 h) (
gI W R N E P x0 x2 x4 x7 x8 x9 gZ ab h)
def jH:N7:=fun W R N E P x0 x2 x4 x7 x8 x9 ax h=>
lc W R N E P x0 x2 x4 x7 x8 x9 ax h
def gQ:N5:=fun W R N E P x0 x2 x4 x7 x8 h=>
aH x0 fun t92=>
ah (some 3) t92 fun t93=>
ao (some false) (some 1) t93 h fun t94 _=>
ah (some 1) x4 fun t96=>
ao (some false) (some 1) t96 h fun t97 _=>
hG Pg (some (9,112)) t94 t97 true h fun t99 _=>
cW t99 0 fun t101=>
cW t99 1 fun t102=>
jH W R N E P x0 x2 x4 x7 x8 t101 t102 h
def mh:N3:=fun W R N E P x0 x2 x4 h=>
ah (some 1) x4 fun t103=>
ao (some false) (some 1) t103 h fun t104 _=>
aq Pg W 90 [t104] h (fun t106 Gt=>
gQ W R N E P x0 x2 x4 t106 (.sc (.int .i64 0)) Gt) P
def pr:N0:=fun _ R _ _ _ h=>
R [(.sc (.int .i64 114))] h
def oV:N4:=fun W R N E P x0 x2 x4 pj h=>
aF pj (
pr W R N E P h) (
mh W R N E P x0 x2 x4 h)
def jW:N5:=fun W R N E P x0 x2 x4 qV l_ h=>
aO qV l_ (.sc (.bool false)) fun t108=>
oV W R N E P x0 x2 x4 t108 h
def nL:N4:=fun W R N E P x0 x2 x4 qV h=>
bw true qV (
ah (some 1) x4 fun t109=>
ao (some false) (some 1) t109 h fun t110 _=>
aH x2 fun t112=>
ah (some 0) t112 fun t113=>
ao (some false) (some 1) t113 h fun t114 _=>
ai Pg .eql 9 false t110 t114 fun t116=>
jW W R N E P x0 x2 x4 qV t116 h) (
jW W R N E P x0 x2 x4 qV ab h)
def rM:N3:=fun W R N E P x0 x2 x4 h=>
ai Pg .neq 112 true x2 (.sc (.pointer none)) fun t117=>
nL W R N E P x0 x2 x4 t117 h
def uM:N3:=fun W R N E P x0 x1 x2 h=>
eR 6 87 x1 h fun t118 Oc=>
rM W R N E P x0 x2 t118 Oc
theorem aM{x0 x1 x2:AV}{h:AH}{M:WK}{R:RK}(hp:uM (fun id=>M id\/h.next<=id) (aJ Pg [.tmp 6] R) (aJ Pg [.tmp 6] R) (fun _ _ _=>False) (fun v h=>R (.bW v) h) x0 x1 x2 h):aA Pg 87 [x0,x1,x2] h M R:=
 fin (n:=131) (pl:=[(1,⟨[(none,(fr 0 3)),(some (2,true),(fr 3 7)),(none,(fr 10 1))],false,[],[]⟩),(4,⟨[(none,(fr 0 12))],false,[],[]⟩),(5,⟨[(none,(fr 0 2)),(some (1,true),(fr 2 4)),(none,(fr 6 1))],false,[],[]⟩),(6,⟨[(none,(fr 0 11))],false,[],[]⟩),(15,⟨[(none,(fr 0 7))],false,[],[5]⟩),(20,⟨[(none,(fr 0 8))],false,[],[6]⟩)]) (rs:=[.tmp 6]) (L:=rs) (fun c=>(a3 uM 0 1 2 c)) Tryz.mixed Tryz.func87 (fun c=>
(sq (a3 uM 0 1 2 c)
(sn
(sq (a3 mh 0 2 4 c)
(sn
(sn
(sn
(sn
(sq (a3 cp 2 4 8 c)
(sn
(sn
(sl (a0 n1 c))
(sq (a2 n7 2 8 c)
(cd (a3 n6 2 8 117 c) (sn
(sm (a2 n2 2 8 c))
(sq (a2 n5 2 8 c)
(cd (a3 n4 2 8 120 c) (sl (a0 n3 c)) tr))) tr)))
(sq (a4 ck 2 4 8 14 c)
(bk 2 (lp [2,8,14,98,99,100] rs [(2,[2,8])] (a6 b5 2 8 14 98 99 100 c) cG (fun i vs h=>if i=2 then n7 c.W c.R c.N c.E c.P (vs.getD 0 ab) (vs.getD 1 ab) h else c.E i vs h) (.b (.t .o)) fun c=>
(sq (a6 bR 2 8 14 98 99 100 c)
(sn
(sn
(sm (a6 n8 2 8 14 98 99 100 c))
(bk 3 (sq (a6 bP 2 8 14 98 99 100 c)
(sn
(sm (a8 n9 2 8 14 15 16 98 99 100 c))
(sq (a8 bH 2 8 14 15 16 98 99 100 c)
(sq (a9 a_ 2 8 14 15 16 18 98 99 100 c)
(cd (a9 bj 2 8 14 15 16 98 99 100 111 c) tr tr)))))))
(cd (a7 bV 2 8 14 98 99 100 101 c) tr tr))))))))
(sq (a4 fL 0 2 4 8 c)
(bk 0 (lp [0,2,4,8,67,68,69] rs [(0,[2,4,8])] (a7 fD 0 2 4 8 67 68 69 c) iX (fun i vs h=>if i=0 then cp c.W c.R c.N c.E c.P (vs.getD 0 ab) (vs.getD 1 ab) (vs.getD 2 ab) h else c.E i vs h) (.b (.t .o)) fun c=>
(sq (a7 fu 0 2 4 8 67 68 69 c)
(sn
(sn
(sm (a7 cP 0 2 4 8 67 68 69 c))
(bk 1 (sq (a7 fl 0 2 4 8 67 68 69 c)
(sn
(sn
(sn
(cd (a8 cw 0 2 4 8 67 68 69 94 c) tr tr)
(gr (gl (a8 cL 0 2 4 8 12 67 68 69 c))))
(sq (a8 cC 0 2 4 8 12 67 68 69 c)
(cd (a9 cF 0 2 4 8 12 67 68 69 86 c) tr tr)))
(sq (a8 eC 0 2 4 8 12 67 68 69 c)
(cd (a9 dZ 0 2 4 8 12 67 68 69 74 c) (sn
(sm (a7 cB 0 2 4 8 67 68 69 c))
(sn
(sq (a8 dn 0 2 4 8 13 67 68 69 c)
(cd (a9 cU 0 2 4 8 13 67 68 69 82 c) tr tr))
(gr (gl (a8 dS 0 2 4 8 12 67 68 69 c))))) tr))))))
(cd (a8 fM 0 2 4 8 67 68 69 70 c) tr tr)))))))
(sq (a5 e_ 0 2 4 7 8 c)
(cd (a5 fQ 0 2 4 8 65 c) (sl (a0 fk c)) tr)))
(sq (a5 fC 0 2 4 7 8 c)
(cd (a6 fZ 0 2 4 7 8 60 c) (sl (a0 gf c)) tr)))
(sq (a5 gQ 0 2 4 7 8 c)
(sn
(cd (a7 jd 0 2 4 7 8 9 49 c) tr tr)
(gr (gn (a7 jH 0 2 4 7 8 9 10 c) (gx (a7 lc 0 2 4 7 8 9 44 c) (gl (a8 gI 0 2 4 7 8 9 44 48 c)))))))))
(sn
(cd (a4 oV 0 2 4 29 c) (sl (a0 pr c)) tr)
(gr (gn (a3 rM 0 2 4 c) (gx (a4 nL 0 2 4 21 c) (gl (a5 jW 0 2 4 21 28 c))))))))) hp
attribute [simp] n1 n2 n3 n4 n5 n6 n7 n8 n9 bj a_ bH bP bV bR ck cp cP cw cL cF cC cB cU dn dS dZ eC fl fM fu fL fk fQ e_ gf fZ fC jd gI lc jH gQ mh pr oV jW nL rM uM
end c7
namespace G9
abbrev rs:List Nat:=[4]
def n4:N2:=fun _ R _ _ _ n_ kl h=>
aO n_ (.sc (.bool true)) kl fun t1=>
aF t1 (
R [(.sc (.int .i64 112))] h) (
R [(.sc (.int .i64 0))] h)
def n7:N0:=fun _ R _ _ _ h=>
R [(.sc (.int .i64 110))] h
def n8:N3:=fun W R N E P x3 x5 bC h=>
aF bC (
n7 W R N E P h) (
ah (some 1) x3 fun t9=>
ao (some false) (some 1) t9 h fun t10 _=>
ai Pg .lss 3 true t10 (.sc (.int .i64 0)) fun t12=>
bw false t12 (
ah (some 1) x3 fun t2=>
ao (some false) (some 1) t2 h fun t3 _=>
ah (some 1) x5 fun t5=>
ao (some false) (some 1) t5 h fun t6 _=>
ai Pg .geq 3 false t3 t6 fun t8=>
n4 W R N E P t12 t8 h) (
n4 W R N E P t12 ab h))
def n9:N3:=fun W R N E P x3 x5 x6 h=>
iH .not x6 fun t13=>
n8 W R N E P x3 x5 t13 h
def aS:N2:=fun W R N E P x0 x3 h=>
ah (some 0) x3 fun t14=>
ao (some false) (some 1) t14 h fun t15 _=>
hG Pg (some (9,118)) x0 t15 true h fun t17 _=>
cW t17 0 fun t19=>
cW t17 1 fun t20=>
bx (some [.int .i64 0,.int .i64 0]) 2 118 h fun t21 sT=>
aD (some 2) t21 t19 sT W fun wQ=>
n9 W R N E P x3 t21 t20 wQ
def bj:N2:=fun W R N E P x0 x1 h=>
eR 2 92 x1 h fun t24 nQ=>
aS W R N E P x0 t24 nQ
theorem aM{x0 x1:AV}{h:AH}{M:WK}{R:RK}(hp:bj (fun id=>M id\/h.next<=id) (aJ Pg [.tmp 4] R) (aJ Pg [.tmp 4] R) (fun _ _ _=>False) (fun v h=>R (.bW v) h) x0 x1 h):aA Pg 88 [x0,x1] h M R:=
 fin (n:=26) (pl:=[(4,⟨[(none,(fr 0 4)),(some (3,false),(fr 4 5)),(none,(fr 9 1))],false,[],[]⟩)]) (rs:=[.tmp 4]) (L:=rs) (fun c=>(a2 bj 0 1 c)) Tryz.mixed Tryz.func88 (fun c=>
(sq (a2 bj 0 1 c)
(sq (a2 aS 0 3 c)
(sn
(sn
tr
(sn
(ci tr tr)
(gr (gm (gz (gl (a2 n4 19 24 c)))))))
(sq (a3 n9 3 5 6 c)
(cd (a3 n8 3 5 15 c) (sl (a0 n7 c)) tr)))))) hp
attribute [simp] n4 n7 n8 n9 aS bj
end G9
namespace vi
abbrev rs:List Nat:=[4]
def n2:N2:=fun _ R _ _ _ iR fY h=>
aO iR (.sc (.bool true)) fY fun t1=>
R [t1] h
def n3:N2:=fun W R N E P x1 iR h=>
bw false iR (
aq Pg W 90 [x1] h (fun t2 h3=>
ai Pg .gtr 3 true t2 (.sc (.int .i64 0)) fun t4=>
n2 W R N E P iR t4 h3) P) (
n2 W R N E P iR ab h)
def n4:N3:=fun W R N E P x1 qU nI h=>
aO qU (.sc (.bool true)) nI fun t5=>
n3 W R N E P x1 t5 h
def n6:N4:=fun W R N E P x1 ax JX EM h=>
aO JX (.sc (.bool true)) EM fun t6=>
bw false t6 (
n4 W R N E P x1 t6 ax h) (
n4 W R N E P x1 t6 ab h)
def n9:N4:=fun W R N E P x0 x1 x6 x8 h=>
aH x0 fun t7=>
ah (some 3) t7 fun t8=>
ao (some false) (some 1) t8 h fun t9 _=>
hG Pg (some (9,112)) t9 x1 true h fun t11 _=>
cW t11 0 fun t13=>
cW t11 1 fun t14=>
bw false x6 (
n6 W R N E P x1 t14 x6 x8 h) (
n6 W R N E P x1 t14 x6 ab h)
def aS:N3:=fun W R N E P x0 x1 x6 h=>
aH x0 fun t15=>
ah (some 2) t15 fun t16=>
ao (some false) (some 1) t16 h fun t17 _=>
hG Pg (some (9,118)) t17 x1 true h fun t19 _=>
cW t19 0 fun t21=>
cW t19 1 fun t22=>
bx (some [.int .i64 0,.int .i64 0]) 2 118 h fun t23 tY=>
aD (some 2) t23 t21 tY W fun nQ=>
n9 W R N E P x0 x1 x6 t22 nQ
def bj:N2:=fun W R N E P x0 x1 h=>
aH x0 fun t26=>
ah (some 1) t26 fun t27=>
ao (some false) (some 1) t27 h fun t28 _=>
hG Pg (some (9,118)) t28 x1 true h fun t30 _=>
cW t30 0 fun t32=>
cW t30 1 fun t33=>
bx (some [.int .i64 0,.int .i64 0]) 2 118 h fun t34 kK=>
aD (some 2) t34 t32 kK W fun wN=>
aS W R N E P x0 x1 t33 wN
def a_:N2:=fun W R N E P x0 x1 h=>
bj W R N E P x0 x1 h
theorem aM{x0 x1:AV}{h:AH}{M:WK}{R:RK}(hp:a_ (fun id=>M id\/h.next<=id) (aJ Pg [.tmp 4] R) (aJ Pg [.tmp 4] R) (fun _ _ _=>False) (fun v h=>R (.bW v) h) x0 x1 h):aA Pg 98 [x0,x1] h M R:=
 fin (n:=50) (pl:=[(4,⟨[(none,(fr 0 2)),(some (1,false),(fr 2 1)),(none,(fr 3 2)),(some (4,false),(fr 5 1)),(none,(fr 6 2)),(some (7,false),(fr 8 3)),(none,(fr 11 2))],false,[],[]⟩)]) (rs:=[.tmp 4]) (L:=rs) (fun c=>(a2 a_ 0 1 c)) Tryz.mixed Tryz.func98 (fun c=>
(sq (a2 a_ 0 1 c)
(sq (a2 bj 0 1 c)
(sq (a3 aS 0 1 6 c)
(sq (a4 n9 0 1 6 8 c)
(sn
tr
(gr (gm (gz (gn (a4 n6 1 10 39 40 c) (gz (gn (a3 n4 1 42 43 c) (gx (a2 n3 1 45 c) (gl (a2 n2 45 48 c))))))))))))))) hp
attribute [simp] n2 n3 n4 n6 n9 aS bj a_
end vi
namespace dh
abbrev rs:List Nat:=[8]
def n1:N0:=fun _ R _ _ _ h=>
R [(.sc (.int .i64 0))] h
def n2:N2:=fun W R _ _ P x0 x5 h=>
ao (some true) (some 6) x5 h fun t1 _=>
aH x0 fun t3=>
ah (some 1) t3 fun t4=>
ao (some false) (some 1) t4 h fun t5 _=>
aH x0 fun t7=>
ah (some 5) t7 fun t8=>
ah (some 0) t8 fun t9=>
aq Pg W 85 [x0,t1,t5,t9,(.sc (.int .i64 64))] h (fun t10 mO=>
R [t10] mO) P
def n3:N2:=fun W R _ _ P x0 x5 h=>
ao (some true) (some 6) x5 h fun t12 _=>
aH x0 fun t14=>
ah (some 2) t14 fun t15=>
ao (some false) (some 1) t15 h fun t16 _=>
aH x0 fun t18=>
ah (some 5) t18 fun t19=>
ah (some 1) t19 fun t20=>
aq Pg W 85 [x0,t12,t16,t20,(.sc (.int .i64 64))] h (fun t21 sT=>
R [t21] sT) P
def n4:N3:=fun W R _ _ P x0 x2 x5 h=>
ao (some true) (some 6) x5 h fun t23 _=>
aq Pg W 86 [x0,t23,x2] h (fun t25 nP=>
R [t25] nP) P
def n5:N0:=fun _ R _ _ _ h=>
R [(.sc (.int .i64 112))] h
def n6:N1:=fun W R N E P lL h=>
aF lL (
n5 W R N E P h) (
n1 W R N E P h)
def n7:N1:=fun W R N E P x5 h=>
ah (some 3) x5 fun t27=>
ao (some false) (some 1) t27 h fun t28 _=>
ai Pg .lss 3 true t28 (.sc (.int .i64 0)) fun t30=>
n6 W R N E P t30 h
def n8:N0:=fun _ R _ _ _ h=>
R [(.sc (.int .i64 112))] h
def n9:N1:=fun W R N E P nH h=>
aF nH (
n8 W R N E P h) (
n1 W R N E P h)
def aS:N2:=fun W R N E P gM oQ h=>
aO gM (.sc (.bool true)) oQ fun t31=>
n9 W R N E P t31 h
def bj:N3:=fun W R N E P gM sB sA h=>
bw false gM (
aO sB sA (.sc (.bool false)) fun t32=>
aS W R N E P gM t32 h) (
aS W R N E P gM ab h)
def a_:N4:=fun W R N E P x5 x9 gM sB h=>
bw true sB (
ah (some 3) x5 fun t33=>
ao (some false) (some 1) t33 h fun t34 _=>
ah (some 1) x9 fun t36=>
ao (some false) (some 1) t36 h fun t37 _=>
ai Pg .shl 3 true (.sc (.int .i64 1)) t37 fun t39=>
ai Pg .geq 3 false t34 t39 fun t40=>
bj W R N E P gM sB t40 h) (
bj W R N E P gM sB ab h)
def bH:N3:=fun W R N E P x5 x9 gM h=>
bw false gM (
ah (some 1) x9 fun t41=>
ao (some false) (some 1) t41 h fun t42 _=>
ai Pg .lss 3 true t42 (.sc (.int .i64 63)) fun t44=>
a_ W R N E P x5 x9 gM t44 h) (
a_ W R N E P x5 x9 gM ab h)
def bP:N2:=fun W R N E P x5 x9 h=>
ah (some 3) x5 fun t45=>
ao (some false) (some 1) t45 h fun t46 _=>
ai Pg .lss 3 true t46 (.sc (.int .i64 0)) fun t48=>
bH W R N E P x5 x9 t48 h
def bV:N0:=fun _ R _ _ _ h=>
R [(.sc (.int .i64 110))] h
def bR:N3:=fun W R N E P x5 x9 qT h=>
aF qT (
bV W R N E P h) (
bP W R N E P x5 x9 h)
def b5:N3:=fun W R N E P x5 x9 ax h=>
iH .not ax fun t49=>
bR W R N E P x5 x9 t49 h
def ck:N2:=fun W R N E P x0 x5 h=>
aH x0 fun t50=>
ah (some 2) t50 fun t51=>
ao (some false) (some 1) t51 h fun t52 _=>
ah (some 1) x5 fun t54=>
ao (some false) (some 1) t54 h fun t55 _=>
hG Pg (some (9,118)) t52 t55 true h fun t57 _=>
cW t57 0 fun t59=>
cW t57 1 fun t60=>
bx (some [.int .i64 0,.int .i64 0]) 2 118 h fun t61 Cd=>
aD (some 2) t61 t59 Cd W fun Gk=>
b5 W R N E P x5 t61 t60 Gk
def cp:N3:=fun W R _ _ P x0 x3 x5 h=>
ao (some true) (some 6) x5 h fun t64 _=>
aq Pg W 87 [x0,t64,x3] h (fun t66 D4=>
R [t66] D4) P
def cP:N2:=fun W R _ _ P x0 x5 h=>
aH x0 fun t68=>
ah (some 2) t68 fun t69=>
ao (some false) (some 1) t69 h fun t70 _=>
ah (some 2) x5 fun t72=>
ao (some false) (some 1) t72 h fun t73 _=>
bB (some (2,none)) t73 (.sc (.int .i64 1)) fun t75=>
ao (some true) (some 2) t75 h fun t76 _=>
aq Pg W 88 [t70,t76] h (fun t78 Vh=>
R [t78] Vh) P
def cT:N1:=fun _ R _ _ _ ay h=>
R [ay] h
def cw:N4:=fun W R N E P x0 x5 ay ML h=>
aF ML (
cT W R N E P ay h) (
cP W R N E P x0 x5 h)
def cL:N3:=fun W R N E P x0 x5 ay h=>
ai Pg .neq 28 true ay (.sc (.int .i64 0)) fun t80=>
cw W R N E P x0 x5 ay t80 h
def cS:N2:=fun W R N E P x0 x5 h=>
aH x0 fun t81=>
ah (some 1) t81 fun t82=>
ao (some false) (some 1) t82 h fun t83 _=>
ah (some 2) x5 fun t85=>
ao (some false) (some 1) t85 h fun t86 _=>
bB (some (2,none)) t86 (.sc (.int .i64 0)) fun t88=>
ao (some true) (some 2) t88 h fun t89 _=>
aq Pg W 88 [t83,t89] h (fun t91 LA=>
cL W R N E P x0 x5 t91 LA) P
def cF:N0:=fun _ R _ _ _ h=>
R [(.sc (.int .i64 111))] h
def cC:N3:=fun W R N E P x0 x5 JU h=>
aF JU (
cF W R N E P h) (
cS W R N E P x0 x5 h)
def cB:N2:=fun W R N E P x0 x5 h=>
ah (some 2) x5 fun t93=>
ao (some false) (some 1) t93 h fun t94 _=>
(aY t94=false)/\bL t94 fun t96=>
ai Pg .neq 3 true t96 (.sc (.int .i64 2)) fun t97=>
cC W R N E P x0 x5 t97 h
def c9:N2:=fun W R _ _ P x0 x5 h=>
aH x0 fun t98=>
ah (some 1) t98 fun t99=>
ao (some false) (some 1) t99 h fun t100 _=>
ah (some 2) x5 fun t102=>
ao (some false) (some 1) t102 h fun t103 _=>
bB (some (2,none)) t103 (.sc (.int .i64 0)) fun t105=>
ao (some true) (some 2) t105 h fun t106 _=>
aq Pg W 88 [t100,t106] h (fun t108 Og=>
R [t108] Og) P
def cU:N0:=fun _ R _ _ _ h=>
R [(.sc (.int .i64 111))] h
def dn:N3:=fun W R N E P x0 x5 Al h=>
aF Al (
cU W R N E P h) (
c9 W R N E P x0 x5 h)
def dS:N2:=fun W R N E P x0 x5 h=>
ah (some 2) x5 fun t110=>
ao (some false) (some 1) t110 h fun t111 _=>
(aY t111=false)/\bL t111 fun t113=>
ai Pg .neq 3 true t113 (.sc (.int .i64 1)) fun t114=>
dn W R N E P x0 x5 t114 h
def dZ:N3:=fun W R N E P x0 x5 Zj h=>
aF Zj (
dS W R N E P x0 x5 h) (
n1 W R N E P h)
def eC:N3:=fun W R N E P x0 x5 bg h=>
ai Pg .eql 9 true bg (.sc (.string ⟨#[114,101,115,101,116]⟩)) fun t115=>
dZ W R N E P x0 x5 t115 h
def fl:N4:=fun W R N E P x0 x5 bg A3 h=>
aF A3 (
cB W R N E P x0 x5 h) (
eC W R N E P x0 x5 bg h)
def fM:N3:=fun W R N E P x0 x5 bg h=>
ai Pg .eql 9 true bg (.sc (.string ⟨#[109,101,97,115,117,114,101]⟩)) fun t116=>
fl W R N E P x0 x5 bg t116 h
def fu:N5:=fun W R N E P x0 x3 x5 bg qS h=>
aF qS (
cp W R N E P x0 x3 x5 h) (
fM W R N E P x0 x5 bg h)
def fD:N4:=fun W R N E P x0 x3 x5 bg h=>
ai Pg .eql 9 true bg (.sc (.string ⟨#[117,115,101]⟩)) fun t117=>
fu W R N E P x0 x3 x5 bg t117 h
def fL:N5:=fun W R N E P x0 x3 x5 bg pi h=>
aF pi (
ck W R N E P x0 x5 h) (
fD W R N E P x0 x3 x5 bg h)
def fk:N4:=fun W R N E P x0 x3 x5 bg h=>
ai Pg .eql 9 true bg (.sc (.string ⟨#[105,102]⟩)) fun t118=>
fL W R N E P x0 x3 x5 bg t118 h
def fQ:N5:=fun W R N E P x0 x3 x5 bg JW h=>
aF JW (
n7 W R N E P x5 h) (
fk W R N E P x0 x3 x5 bg h)
def e_:N4:=fun W R N E P x0 x3 x5 bg h=>
ai Pg .eql 9 true bg (.sc (.string ⟨#[114,101,112,101,97,116]⟩)) fun t119=>
fQ W R N E P x0 x3 x5 bg t119 h
def gf:N6:=fun W R N E P x0 x2 x3 x5 bg EM h=>
aF EM (
n4 W R N E P x0 x2 x5 h) (
e_ W R N E P x0 x3 x5 bg h)
def fZ:N5:=fun W R N E P x0 x2 x3 x5 bg h=>
ai Pg .eql 9 true bg (.sc (.string ⟨#[103,97,116,101]⟩)) fun t120=>
gf W R N E P x0 x2 x3 x5 bg t120 h
def fC:N6:=fun W R N E P x0 x2 x3 x5 bg w_ h=>
aF w_ (
n3 W R N E P x0 x5 h) (
fZ W R N E P x0 x2 x3 x5 bg h)
def jd:N5:=fun W R N E P x0 x2 x3 x5 bg h=>
ai Pg .eql 9 true bg (.sc (.string ⟨#[98,105,116,115]⟩)) fun t121=>
fC W R N E P x0 x2 x3 x5 bg t121 h
def gI:N6:=fun W R N E P x0 x2 x3 x5 bg aX h=>
aF aX (
n2 W R N E P x0 x5 h) (
jd W R N E P x0 x2 x3 x5 bg h)
def lc:N5:=fun W R N E P x0 x2 x3 x5 bg h=>
ai Pg .eql 9 true bg (.sc (.string ⟨#[113,117,98,105,116,115]⟩)) fun t122=>
gI W R N E P x0 x2 x3 x5 bg t122 h
def jH:N4:=fun W R N E P x0 x2 x3 x5 h=>
ah (some 0) x5 fun t123=>
ao (some false) (some 1) t123 h fun t124 _=>
lc W R N E P x0 x2 x3 x5 t124 h
def gQ:N4:=fun W R N E P x0 x1 x2 x3 h=>
eR 6 87 x1 h fun t126 N_=>
jH W R N E P x0 x2 x3 t126 N_
theorem aM{x0 x1 x2 x3:AV}{h:AH}{M:WK}{R:RK}(hp:gQ (fun id=>M id\/h.next<=id) (aJ Pg [.tmp 8] R) (aJ Pg [.tmp 8] R) (fun _ _ _=>False) (fun v h=>R (.bW v) h) x0 x1 x2 x3 h):aA Pg 63 [x0,x1,x2,x3] h M R:=
 fin (n:=129) (pl:=[(3,⟨[(none,(fr 0 12))],false,[],[]⟩),(5,⟨[(none,(fr 0 12))],false,[],[]⟩),(12,⟨[(none,(fr 0 13))],false,[],[]⟩),(15,⟨[(none,(fr 0 4)),(some (3,false),(fr 4 4)),(some (7,true),(fr 8 6)),(some (3,false),(fr 14 1)),(none,(fr 15 1))],false,[],[]⟩),(22,⟨[(none,(fr 0 10))],false,[],[]⟩),(25,⟨[(none,(fr 0 10))],false,[],[]⟩),(29,⟨[(none,(fr 0 10))],false,[],[]⟩)]) (rs:=[.tmp 8]) (L:=rs) (fun c=>(a4 gQ 0 1 2 3 c)) Tryz.mixed Tryz.func63 (fun c=>
(sq (a4 gQ 0 1 2 3 c)
(sn
(sl (a0 n1 c))
(sq (a4 jH 0 2 3 5 c)
(bk 0 (sq (a5 lc 0 2 3 5 13 c)
(cd (a6 gI 0 2 3 5 13 14 c) (sl (a2 n2 0 5 c)) (sq (a5 jd 0 2 3 5 13 c)
(cd (a6 fC 0 2 3 5 13 27 c) (sl (a2 n3 0 5 c)) (sq (a5 fZ 0 2 3 5 13 c)
(cd (a6 gf 0 2 3 5 13 40 c) (sl (a3 n4 0 2 5 c)) (sq (a4 e_ 0 3 5 13 c)
(cd (a5 fQ 0 3 5 13 46 c) (sq (a1 n7 5 c)
(cd (a1 n6 50 c) (sl (a0 n5 c)) tr)) (sq (a4 fk 0 3 5 13 c)
(cd (a5 fL 0 3 5 13 51 c) (sq (a2 ck 0 5 c)
(sn
(sn
(cd (a1 n9 80 c) (sl (a0 n8 c)) tr)
(gr (gn (a2 bP 5 9 c) (gx (a3 bH 5 9 68 c) (gx (a4 a_ 5 9 68 72 c) (gx (a3 bj 68 72 78 c) (gl (a2 aS 68 79 c))))))))
(sq (a3 b5 5 9 10 c)
(cd (a3 bR 5 9 64 c) (sl (a0 bV c)) tr)))) (sq (a4 fD 0 3 5 13 c)
(cd (a5 fu 0 3 5 13 81 c) (sl (a3 cp 0 3 5 c)) (sq (a3 fM 0 5 13 c)
(cd (a4 fl 0 5 13 87 c) (sn
(sn
(sl (a2 cP 0 5 c))
(sq (a2 cS 0 5 c)
(sq (a3 cL 0 5 11 c)
(cd (a4 cw 0 5 11 103 c) (sl (a1 cT 11 c)) tr))))
(sq (a2 cB 0 5 c)
(cd (a3 cC 0 5 92 c) (sl (a0 cF c)) tr))) (sq (a3 eC 0 5 13 c)
(cd (a3 dZ 0 5 114 c) (sn
(sl (a2 c9 0 5 c))
(sq (a2 dS 0 5 c)
(cd (a3 dn 0 5 119 c) (sl (a0 cU c)) tr))) tr))))))))))))))))))))) hp
attribute [simp] n1 n2 n3 n4 n5 n6 n7 n8 n9 aS bj a_ bH bP bV bR b5 ck cp cP cT cw cL cS cF cC cB c9 cU dn dS dZ eC fl fM fu fD fL fk fQ e_ gf fZ fC jd gI lc jH gQ
end dh
end
section
open Go.Ab
namespace gL
abbrev rs:List Nat:=[10]
def n1:N0:=fun _ R _ _ _ h=>
R [(.sc (.int .i64 0))] h
def n2:N6:=fun _ _ N _ _ x0 x2 x3 x4 ay aG h=>
ah (some 4) aG fun t1=>
ao (some false) (some 1) t1 h fun t2 _=>
ai Pg .add 3 true (.sc (.int .i64 1)) t2 fun t4=>
ai Pg .add 3 false ay t4 fun t5=>
N [x0,x2,x3,x4,t5] h
def n3:N7:=fun W R N E P x0 x2 x3 x4 ay aG dm h=>
aH dm fun t6=>
ah (some 2) t6 fun t7=>
ao (some false) (some 1) t7 h fun t8 _=>
aH dm fun t10=>
ah (some 3) t10 fun t11=>
ao (some false) (some 1) t11 h fun t12 _=>
aq Pg pT 64 [x0,t8,t12] h (fun t14 qf=>
aH dm fun t16=>
ah (some 5) t16 fun t17=>
aD (some 1) t17 t14 qf W fun rV=>
n2 W R N E P x0 x2 x3 x4 ay aG rV) P
def n4:N7:=fun W R N E P x0 x2 x3 x4 ay aG dm h=>
aH dm fun t19=>
ah (some 6) t19 fun t20=>
aD (some 1) t20 (.sc (.bool true)) h W fun qe=>
n3 W R N E P x0 x2 x3 x4 ay aG dm qe
def n5:N6:=fun W R N E P x0 x2 x3 x4 ay aG h=>
aH x0 fun t22=>
ah (some 3) t22 fun t23=>
ao (some false) (some 1) t23 h fun t24 _=>
ah (some 1) aG fun t26=>
ao (some false) (some 1) t26 h fun t27 _=>
hG Pg (some (9,112)) t24 t27 false h fun t29 _=>
n4 W R N E P x0 x2 x3 x4 ay aG t29 h
def n6:N7:=fun W R N E P x0 x2 x3 x4 ay aG l8 h=>
aF l8 (
n5 W R N E P x0 x2 x3 x4 ay aG h) (
n2 W R N E P x0 x2 x3 x4 ay aG h)
def n7:N6:=fun W R N E P x0 x2 x3 x4 ay aG h=>
ah (some 0) aG fun t31=>
ao (some false) (some 1) t31 h fun t32 _=>
ai Pg .eql 9 true t32 (.sc (.string ⟨#[103,97,116,101]⟩)) fun t34=>
n6 W R N E P x0 x2 x3 x4 ay aG t34 h
def n8:N1:=fun _ R _ _ _ du h=>
R [du] h
def n9:N8:=fun W R N E P x0 x2 x3 x4 ay aG du sA h=>
aF sA (
n8 W R N E P du h) (
n7 W R N E P x0 x2 x3 x4 ay aG h)
def aS:N7:=fun W R N E P x0 x2 x3 x4 ay aG du h=>
ai Pg .neq 28 true du (.sc (.int .i64 0)) fun t35=>
n9 W R N E P x0 x2 x3 x4 ay aG du t35 h
def bj:N7:=fun W R N E P x0 x2 x3 x4 ay aG bC h=>
ai Pg .add 3 true ay (.sc (.int .i64 1)) fun t36=>
ai Pg .add 3 true ay (.sc (.int .i64 1)) fun t37=>
ah (some 4) aG fun t38=>
ao (some false) (some 1) t38 h fun t39 _=>
ai Pg .add 3 false t37 t39 fun t41=>
ai Pg .add 3 true x3 (.sc (.int .i64 1)) fun t42=>
aq Pg W 23 [x0,t36,t41,t42,bC] h (fun t43 wL=>
aS W R N E P x0 x2 x3 x4 ay aG t43 wL) P
def a_:N8:=fun W R N E P x0 x2 x3 x4 ay aG bC A7 h=>
aF A7 (
aH x0 fun t45=>
ah (some 3) t45 fun t46=>
ao (some false) (some 1) t46 h fun t47 _=>
ah (some 1) aG fun t49=>
ao (some false) (some 1) t49 h fun t50 _=>
hG Pg (some (9,112)) t47 t50 false h fun t52 _=>
bj W R N E P x0 x2 x3 x4 ay aG t52 h) (
bj W R N E P x0 x2 x3 x4 ay aG bC h)
def bH:N7:=fun W R N E P x0 x2 x3 x4 ay aG bC h=>
ah (some 0) aG fun t54=>
ao (some false) (some 1) t54 h fun t55 _=>
ai Pg .eql 9 true t55 (.sc (.string ⟨#[103,97,116,101]⟩)) fun t57=>
a_ W R N E P x0 x2 x3 x4 ay aG bC t57 h
def bP:N6:=fun W R N E P x0 x2 x3 x4 ay aG h=>
bH W R N E P x0 x2 x3 x4 ay aG x4 h
def bV:N1:=fun _ R _ _ _ aX h=>
R [aX] h
def bR:N8:=fun W R N E P x0 x2 x3 x4 ay aG aX w7 h=>
aF w7 (
bV W R N E P aX h) (
bP W R N E P x0 x2 x3 x4 ay aG h)
def b5:N7:=fun W R N E P x0 x2 x3 x4 ay aG aX h=>
ai Pg .neq 28 true aX (.sc (.int .i64 0)) fun t58=>
bR W R N E P x0 x2 x3 x4 ay aG aX t58 h
def ck:N6:=fun W R N E P x0 x2 x3 x4 ay aG h=>
ao (some true) (some 6) aG h fun t59 _=>
aq Pg W 63 [x0,t59,ay,x4] h (fun t61 Cd=>
b5 W R N E P x0 x2 x3 x4 ay aG t61 Cd) P
def cp:N1:=fun _ R _ _ _ bg h=>
R [bg] h
def cP:N8:=fun W R N E P x0 x2 x3 x4 ay aG bg gZ h=>
aF gZ (
cp W R N E P bg h) (
ck W R N E P x0 x2 x3 x4 ay aG h)
def cT:N7:=fun W R N E P x0 x2 x3 x4 ay aG bg h=>
ai Pg .neq 28 true bg (.sc (.int .i64 0)) fun t63=>
cP W R N E P x0 x2 x3 x4 ay aG bg t63 h
def cw:N6:=fun W R N E P x0 x2 x3 x4 ay aG h=>
ao (some true) (some 6) aG h fun t64 _=>
ai Pg .sub 3 false x2 ay fun t66=>
ai Pg .sub 3 true t66 (.sc (.int .i64 1)) fun t67=>
aq Pg W 62 [x0,t64,t67,x3,x4] h (fun t68 Gg=>
cT W R N E P x0 x2 x3 x4 ay aG t68 Gg) P
def cL:N6:=fun W R N E P x0 x2 x3 x4 ay aG h=>
ah (some 5) aG fun t70=>
ao (some false) (some 1) t70 h fun t71 _=>
aH x0 fun t73=>
ah (some 8) t73 fun t74=>
aD (some 1) t74 t71 h W fun LH=>
cw W R N E P x0 x2 x3 x4 ay aG LH
def cS:N5:=fun W R N E P x0 x2 x3 x4 ay h=>
aH x0 fun t76=>
ah (some 0) t76 fun t77=>
ao (some false) (some 1) t77 h fun t78 _=>
bB (some (6,none)) t78 ay fun t80=>
ao (some true) (some 6) t80 h fun t81 _=>
bx (some [.string ⟨#[]⟩,.string ⟨#[]⟩,.slice none 0 0,.int .i64 0,.int .i64 0,.int .i64 0]) 6 87 h fun t83 Gc=>
aD (some 6) t83 t81 Gc W fun ri=>
cL W R N E P x0 x2 x3 x4 ay t83 ri
def cF:N6:=fun W R N E P x0 x2 x3 x4 ay qV h=>
aF qV (
cS W R N E P x0 x2 x3 x4 ay h) (
E 0 [] h)
def cC:N5:=fun W R N E P x0 x2 x3 x4 ay h=>
ai Pg .lss 3 false ay x2 fun t86=>
cF W R N E P x0 x2 x3 x4 ay t86 h
def cG:GK:=fun W R N E P N' vs h=>cC W R N' (fun(i:Nat) (vs:List AV) (h:AH)=>if i=0 then n1 W R N E P h else E i vs h) P (vs.getD 0 ab) (vs.getD 1 ab) (vs.getD 2 ab) (vs.getD 3 ab) (vs.getD 4 ab) h
def cB:N5:=fun W R N E P x0 x2 x3 x4 ay h=>
dK (cG W R N E P) [x0,x2,x3,x4,ay] h
def c9:N5:=fun W R N E P x0 x1 x2 x3 x4 h=>
cB W R N E P x0 x2 x3 x4 x1 h
def cU:N5:=fun W R N E P x0 x1 x2 x3 x4 h=>
c9 W R N E P x0 x1 x2 x3 x4 h
theorem aM{x0 x1 x2 x3 x4:AV}{h:AH}{M:WK}{R:RK}(hp:cU (fun id=>M id\/h.next<=id) (aJ Pg [.tmp 10] R) (aJ Pg [.tmp 10] R) (fun _ _ _=>False) (fun v h=>R (.bW v) h) x0 x1 x2 x3 x4 h):aA Pg 23 [x0,x1,x2,x3,x4] h M R:=
 fin (n:=111) (pl:=[(13,⟨[(none,(fr 0 8))],false,[],[]⟩),(18,⟨[(none,(fr 0 8))],false,[],[]⟩),(20,⟨[(none,(fr 0 14))],false,[],[10]⟩)]) (rs:=[.tmp 10]) (L:=rs) (fun c=>(a5 cU 0 1 2 3 4 c)) Tryz.mixed Tryz.func23 (fun c=>
(sq (a5 cU 0 1 2 3 4 c)
(sn
(sl (a0 n1 c))
(sq (a5 c9 0 1 2 3 4 c)
(bk 0 (lp [0,2,3,4,11] rs [(0,[])] (a5 cB 0 2 3 4 11 c) cG (fun i vs h=>if i=0 then n1 c.W c.R c.N c.E c.P h else c.E i vs h) (.b (.t .o)) fun c=>
(sn
(bk 1 (sq (a5 cS 0 2 3 4 11 c)
(sq (a6 cL 0 2 3 4 11 12 c)
(sn
(sn
(sq (a6 bP 0 2 3 4 11 12 c)
(sn
(sn
(sn
(sm (a6 n2 0 2 3 4 11 12 c))
(sq (a6 n7 0 2 3 4 11 12 c)
(cd (a7 n6 0 2 3 4 11 12 82 c) (sq (a6 n5 0 2 3 4 11 12 c)
(sq (a7 n4 0 2 3 4 11 12 17 c)
(gr (gl (a7 n3 0 2 3 4 11 12 17 c))))) tr)))
(sq (a7 bj 0 2 3 4 11 12 15 c)
(sq (a7 aS 0 2 3 4 11 12 16 c)
(cd (a8 n9 0 2 3 4 11 12 16 78 c) (sl (a1 n8 16 c)) tr))))
(sq (a7 bH 0 2 3 4 11 12 15 c)
(cd (a8 a_ 0 2 3 4 11 12 15 57 c) tr tr))))
(sq (a6 ck 0 2 3 4 11 12 c)
(sq (a7 b5 0 2 3 4 11 12 14 c)
(cd (a8 bR 0 2 3 4 11 12 14 52 c) (sl (a1 bV 14 c)) tr))))
(sq (a6 cw 0 2 3 4 11 12 c)
(sq (a7 cT 0 2 3 4 11 12 13 c)
(cd (a8 cP 0 2 3 4 11 12 13 44 c) (sl (a1 cp 13 c)) tr)))))))
(sq (a5 cC 0 2 3 4 11 c)
(cd (a6 cF 0 2 3 4 11 21 c) tr tr))))))))) hp
attribute [simp] n1 n2 n3 n4 n5 n6 n7 n8 n9 aS bj a_ bH bP bV bR b5 ck cp cP cT cw cL cS cF cC c9 cU
end gL
namespace kZ
abbrev rs:List Nat:=[6]
def n1:N1:=fun _ R _ _ _ x7 h=>
R [x7] h
def n2:N4:=fun _ _ N _ _ x0 x2 x7 x8 h=>
aH x0 fun t1=>
ah (some 0) t1 fun t2=>
ao (some false) (some 1) t2 h fun t3 _=>
bB (some (6,none)) t3 x8 fun t5=>
ah (some 4) t5 fun t6=>
ao (some false) (some 1) t6 h fun t7 _=>
ai Pg .add 3 true (.sc (.int .i64 1)) t7 fun t9=>
ai Pg .add 3 false x8 t9 fun t10=>
N [x0,x2,x7,t10] h
def n3:N5:=fun W R N E P x0 x2 x7 x8 ax h=>
ai Pg .add 3 false x7 ax fun t11=>
rL true t11 (.sc (.int .i64 4097)) fun t12=>
n2 W R N E P x0 x2 t12 x8 h
def n4:N7:=fun W R N E P x0 x2 x7 x8 x9 ax fY h=>
aF fY (
ah (some 3) x9 fun t13=>
ao (some false) (some 1) t13 h fun t14 _=>
rL true t14 (.sc (.int .i64 4097)) fun t16=>
ai Pg .mul 3 false t16 ax fun t17=>
n3 W R N E P x0 x2 x7 x8 t17 h) (
n3 W R N E P x0 x2 x7 x8 ax h)
def n5:N6:=fun W R N E P x0 x2 x7 x8 x9 ax h=>
ai Pg .gtr 3 true ax (.sc (.int .i64 0)) fun t18=>
n4 W R N E P x0 x2 x7 x8 x9 ax t18 h
def n6:N5:=fun W R N E P x0 x2 x7 x8 x9 h=>
ai Pg .add 3 true x8 (.sc (.int .i64 1)) fun t19=>
ai Pg .add 3 true x8 (.sc (.int .i64 1)) fun t20=>
ah (some 4) x9 fun t21=>
ao (some false) (some 1) t21 h fun t22 _=>
ai Pg .add 3 false t20 t22 fun t24=>
aq Pg W 64 [x0,t19,t24] h (fun t25 nP=>
n5 W R N E P x0 x2 x7 x8 x9 t25 nP) P
def n7:N7:=fun W R N E P x0 x2 x7 x8 ax ay qT h=>
aF qT (
aH ay fun t27=>
ah (some 5) t27 fun t28=>
ao (some false) (some 1) t28 h fun t29 _=>
n3 W R N E P x0 x2 x7 x8 t29 h) (
n3 W R N E P x0 x2 x7 x8 ax h)
def n8:N7:=fun W R N E P x0 x2 x7 x8 ax ay aG h=>
n7 W R N E P x0 x2 x7 x8 ax ay aG h
def n9:N6:=fun W R N E P x0 x2 x7 x8 x9 ax h=>
aH x0 fun t31=>
ah (some 3) t31 fun t32=>
ao (some false) (some 1) t32 h fun t33 _=>
ah (some 1) x9 fun t35=>
ao (some false) (some 1) t35 h fun t36 _=>
hG Pg (some (9,112)) t33 t36 true h fun t38 _=>
cW t38 0 fun t40=>
cW t38 1 fun t41=>
n8 W R N E P x0 x2 x7 x8 ax t40 t41 h
def aS:N7:=fun W R N E P x0 x2 x7 x8 x9 ax l9 h=>
aF l9 (
n6 W R N E P x0 x2 x7 x8 x9 h) (
n9 W R N E P x0 x2 x7 x8 x9 ax h)
def bj:N6:=fun W R N E P x0 x2 x7 x8 x9 ax h=>
ah (some 0) x9 fun t42=>
ao (some false) (some 1) t42 h fun t43 _=>
ai Pg .eql 9 true t43 (.sc (.string ⟨#[114,101,112,101,97,116]⟩)) fun t45=>
aS W R N E P x0 x2 x7 x8 x9 ax t45 h
def a_:N5:=fun W R N E P x0 x2 x7 x8 x9 h=>
bj W R N E P x0 x2 x7 x8 x9 (.sc (.int .i64 1)) h
def bH:N4:=fun W R N E P x0 x2 x7 x8 h=>
aH x0 fun t46=>
ah (some 0) t46 fun t47=>
ao (some false) (some 1) t47 h fun t48 _=>
bB (some (6,none)) t48 x8 fun t50=>
ao (some true) (some 6) t50 h fun t51 _=>
bx (some [.string ⟨#[]⟩,.string ⟨#[]⟩,.slice none 0 0,.int .i64 0,.int .i64 0,.int .i64 0]) 6 87 h fun t53 D5=>
aD (some 6) t53 t51 D5 W fun sR=>
a_ W R N E P x0 x2 x7 x8 t53 sR
def bP:N5:=fun W R N E P x0 x2 x7 x8 du h=>
aF du (
bH W R N E P x0 x2 x7 x8 h) (
E 0 [x7] h)
def bV:N4:=fun W R N E P x0 x2 x7 x8 h=>
ai Pg .lss 3 false x8 x2 fun t56=>
bP W R N E P x0 x2 x7 x8 t56 h
def cG:GK:=fun W R N E P N' vs h=>bV W R N' (fun(i:Nat) (vs:List AV) (h:AH)=>if i=0 then n1 W R N E P (vs.getD 0 ab) h else E i vs h) P (vs.getD 0 ab) (vs.getD 1 ab) (vs.getD 2 ab) (vs.getD 3 ab) h
def bR:N4:=fun W R N E P x0 x2 x7 x8 h=>
dK (cG W R N E P) [x0,x2,x7,x8] h
def b5:N4:=fun W R N E P x0 x1 x2 x7 h=>
bR W R N E P x0 x2 x7 x1 h
def ck:N3:=fun W R N E P x0 x1 x2 h=>
b5 W R N E P x0 x1 x2 (.sc (.int .i64 0)) h
def cp:N3:=fun W R N E P x0 x1 x2 h=>
ck W R N E P x0 x1 x2 h
theorem aM{x0 x1 x2:AV}{h:AH}{M:WK}{R:RK}(hp:cp (fun id=>M id\/h.next<=id) (aJ Pg [.tmp 6] R) (aJ Pg [.tmp 6] R) (fun _ _ _=>False) (fun v h=>R (.bW v) h) x0 x1 x2 h):aA Pg 64 [x0,x1,x2] h M R:=
 fin (n:=74) (pl:=[(11,⟨[(none,(fr 0 12))],false,[],[]⟩)]) (rs:=[.tmp 6]) (L:=rs) (fun c=>(a3 cp 0 1 2 c)) Tryz.mixed Tryz.func64 (fun c=>
(sq (a3 cp 0 1 2 c)
(sq (a3 ck 0 1 2 c)
(sn
(sl (a1 n1 7 c))
(sq (a4 b5 0 1 2 7 c)
(bk 0 (lp [0,2,7,8] rs [(0,[7])] (a4 bR 0 2 7 8 c) cG (fun i vs h=>if i=0 then n1 c.W c.R c.N c.E c.P (vs.getD 0 ab) h else c.E i vs h) (.b (.t .o)) fun c=>
(sn
(sn
(sm (a4 n2 0 2 7 8 c))
(bk 1 (sq (a4 bH 0 2 7 8 c)
(sq (a5 a_ 0 2 7 8 9 c)
(sn
(sm (a5 n3 0 2 7 8 10 c))
(sq (a6 bj 0 2 7 8 9 10 c)
(cd (a7 aS 0 2 7 8 9 10 37 c) (sq (a5 n6 0 2 7 8 9 c)
(sq (a6 n5 0 2 7 8 9 10 c)
(cd (a7 n4 0 2 7 8 9 10 48 c) tr tr))) (sq (a6 n9 0 2 7 8 9 10 c)
(sq (a7 n8 0 2 7 8 10 11 12 c)
(cd (a7 n7 0 2 7 8 10 11 64 c) tr tr))))))))))
(sq (a4 bV 0 2 7 8 c)
(cd (a5 bP 0 2 7 8 16 c) tr tr)))))))))) hp
attribute [simp] n1 n2 n3 n4 n5 n6 n7 n8 n9 aS bj a_ bH bP bV b5 ck cp
end kZ
namespace mU
abbrev rs:List Nat:=[10]
def n1:N5:=fun W R _ _ P x0 x4 x8 ay bg h=>
aH ay fun t1=>
ah (some 2) t1 fun t2=>
ao (some false) (some 1) t2 h fun t3 _=>
aH ay fun t5=>
ah (some 3) t5 fun t6=>
ao (some false) (some 1) t6 h fun t7 _=>
ao (some true) (some 3) x8 h fun t9 _=>
aq Pg W 89 [x0,t3,t7,bg,t9,x4] h (fun t11 rX=>
R [t11] rX) P
def n2:N9:=fun _ _ N _ _ x0 x2 x4 x8 ay bg nI gZ iR h=>
ai Pg .add 3 true iR (.sc (.int .i64 1)) fun t13=>
N [x0,x2,x4,x8,ay,bg,nI,gZ,t13] h
def n3:Ek:=fun W R N E P x0 x2 x4 x8 ay bg aX bC nI gZ iR h=>
bB (some (1,none)) x2 aX fun t14=>
ao (some false) (some 1) t14 h fun t15 _=>
eH Pg (some (9,3)) bg bC t15 h W fun nR=>
n2 W R N E P x0 x2 x4 x8 ay bg nI gZ iR nR
def n4:N9:=fun W R N E P x0 x2 x4 x8 ay bg nI gZ iR h=>
bB (some (1,none)) nI iR fun t18=>
ao (some false) (some 1) t18 h fun t19 _=>
n3 W R N E P x0 x2 x4 x8 ay bg iR t19 nI gZ iR h
def n5:ru:=fun W R N E P x0 x2 x4 x8 ay bg nI gZ iR JW h=>
aF JW (
n4 W R N E P x0 x2 x4 x8 ay bg nI gZ iR h) (
E 0 [x0,x4,x8,ay,bg] h)
def n6:N9:=fun W R N E P x0 x2 x4 x8 ay bg nI gZ iR h=>
ai Pg .lss 3 false iR gZ fun t21=>
n5 W R N E P x0 x2 x4 x8 ay bg nI gZ iR t21 h
def cG:GK:=fun W R N E P N' vs h=>n6 W R N' (fun(i:Nat) (vs:List AV) (h:AH)=>if i=0 then n1 W R N E P (vs.getD 0 ab) (vs.getD 1 ab) (vs.getD 2 ab) (vs.getD 3 ab) (vs.getD 4 ab) h else E i vs h) P (vs.getD 0 ab) (vs.getD 1 ab) (vs.getD 2 ab) (vs.getD 3 ab) (vs.getD 4 ab) (vs.getD 5 ab) (vs.getD 6 ab) (vs.getD 7 ab) (vs.getD 8 ab) h
def n7:N9:=fun W R N E P x0 x2 x4 x8 ay bg nI gZ iR h=>
dK (cG W R N E P) [x0,x2,x4,x8,ay,bg,nI,gZ,iR] h
def n8:N6:=fun W R N E P x0 x2 x4 x8 ay bg h=>
aH ay fun t22=>
ah (some 1) t22 fun t23=>
ao (some false) (some 1) t23 h fun t24 _=>
(aY t24=false)/\bL t24 fun t26=>
n7 W R N E P x0 x2 x4 x8 ay bg t24 t26 (.sc (.int .i64 0)) h
def n9:N5:=fun W R N E P x0 x2 x4 x8 ay h=>
rH 135 h fun t27 qc=>
n8 W R N E P x0 x2 x4 x8 ay t27 qc
def aS:N0:=fun _ R _ _ _ h=>
R [(.sc (.bool true))] h
def bj:N6:=fun W R N E P x0 x2 x4 x8 ay w8 h=>
aF w8 (
aS W R N E P h) (
n9 W R N E P x0 x2 x4 x8 ay h)
def a_:N5:=fun W R N E P x0 x2 x4 x8 ay h=>
aH ay fun t29=>
ah (some 5) t29 fun t30=>
ao (some false) (some 1) t30 h fun t31 _=>
ai Pg .eql 3 true t31 (.sc (.int .i64 0)) fun t33=>
bj W R N E P x0 x2 x4 x8 ay t33 h
def bH:N5:=fun W R _ _ P x0 x1 x2 x4 x8 h=>
cN (some ([.int .i64 0,.string ⟨#[]⟩,.slice none 0 0,.int .i64 0,.bool false,.int .u64 0,.int .u64 0],.inl [(0,1),(1,1),(2,1),(3,1),(4,1),(5,1),(6,1)])) [(0,(.sc (.int .i64 1))),(1,x1),(2,x2)] fun t34=>
ao (some true) (some 3) x8 h fun t35 _=>
aq Pg W 67 [x0,t34,t35,x4] h (fun t37 zy=>
R [t37] zy) P
def bP:N7:=fun W R N E P x0 x1 x2 x4 x8 ay uG h=>
aF uG (
bH W R N E P x0 x1 x2 x4 x8 h) (
a_ W R N E P x0 x2 x4 x8 ay h)
def bV:N7:=fun W R N E P x0 x1 x2 x4 x8 ay aG h=>
iH .not aG fun t39=>
bP W R N E P x0 x1 x2 x4 x8 ay t39 h
def bR:N5:=fun W R N E P x0 x1 x2 x4 x8 h=>
aH x0 fun t40=>
ah (some 3) t40 fun t41=>
ao (some false) (some 1) t41 h fun t42 _=>
hG Pg (some (9,112)) t42 x1 true h fun t44 _=>
cW t44 0 fun t46=>
cW t44 1 fun t47=>
bV W R N E P x0 x1 x2 x4 x8 t46 t47 h
def b5:N5:=fun W R N E P x0 x1 x2 x3 x4 h=>
eR 3 79 x3 h fun t48 wJ=>
bR W R N E P x0 x1 x2 x4 t48 wJ
theorem aM{x0 x1 x2 x3 x4:AV}{h:AH}{M:WK}{R:RK}(hp:b5 (fun id=>M id\/h.next<=id) (aJ Pg [.tmp 10] R) (aJ Pg [.tmp 10] R) (fun _ _ _=>False) (fun v h=>R (.bW v) h) x0 x1 x2 x3 x4 h):aA Pg 65 [x0,x1,x2,x3,x4] h M R:=
 fin (n:=70) (pl:=[(12,⟨[(none,(fr 0 14))],false,[],[]⟩)]) (rs:=[.tmp 10]) (L:=rs) (fun c=>(a5 b5 0 1 2 3 4 c)) Tryz.mixed Tryz.func65 (fun c=>
(sq (a5 b5 0 1 2 3 4 c)
(sq (a5 bR 0 1 2 4 8 c)
(sn
(sn
(sq (a5 n9 0 2 4 8 11 c)
(sn
(sl (a5 n1 0 4 8 11 13 c))
(sq (a6 n8 0 2 4 8 11 13 c)
(bk 0 (lp [0,2,4,8,11,13,43,44,45] rs [(0,[0,4,8,11,13])] (a9 n7 0 2 4 8 11 13 43 44 45 c) cG (fun i vs h=>if i=0 then n1 c.W c.R c.N c.E c.P (vs.getD 0 ab) (vs.getD 1 ab) (vs.getD 2 ab) (vs.getD 3 ab) (vs.getD 4 ab) h else c.E i vs h) (.b (.t .o)) fun c=>
(sq (a9 n6 0 2 4 8 11 13 43 44 45 c)
(sn
(sn
(sm (a9 n2 0 2 4 8 11 13 43 44 45 c))
(bk 1 (sq (a9 n4 0 2 4 8 11 13 43 44 45 c)
(sm (G4 n3 0 2 4 8 11 13 14 15 43 44 45 c)))))
(cd (rY n5 0 2 4 8 11 13 43 44 45 46 c) tr tr))))))))
(sq (a5 a_ 0 2 4 8 11 c)
(cd (a6 bj 0 2 4 8 11 38 c) (sl (a0 aS c)) tr)))
(sq (a7 bV 0 1 2 4 8 11 12 c)
(cd (a7 bP 0 1 2 4 8 11 26 c) (sl (a5 bH 0 1 2 4 8 c)) tr)))))) hp
attribute [simp] n1 n2 n3 n4 n5 n6 n8 n9 aS bj a_ bH bP bV bR b5
end mU
namespace uj
abbrev rs:List Nat:=[4]
def n1:N1:=fun _ R _ _ _ x5 h=>
R [x5] h
def n2:N5:=fun _ _ N _ _ x0 x5 x8 x9 ax h=>
ai Pg .add 3 true ax (.sc (.int .i64 1)) fun t1=>
N [x0,x5,x8,x9,t1] h
def n3:N6:=fun W R N E P x0 x5 x7 x8 x9 ax h=>
aH x0 fun t2=>
ah (some 1) t2 fun t3=>
ao (some false) (some 1) t3 h fun t4 _=>
ah (some 0) x7 fun t6=>
ao (some false) (some 1) t6 h fun t7 _=>
hG Pg (some (9,118)) t4 t7 false h fun t9 _=>
m9 (some (0,1,false)) t9 fun t11=>
ah (some 1) x7 fun t12=>
ao (some false) (some 1) t12 h fun t13 _=>
ai Pg .add 3 false t11 t13 fun t15=>
dG (some (1,3,[.int .i64 0])) 1 [(0,t15)] h fun t16 nR=>
fE (some (1,8,3)) x5 t16 nR W fun t18 mM=>
n2 W R N E P x0 t18 x8 x9 ax mM
def n4:N5:=fun W R N E P x0 x5 x8 x9 ax h=>
bB (some (2,none)) x8 ax fun t20=>
ao (some true) (some 2) t20 h fun t21 _=>
bx (some [.string ⟨#[]⟩,.int .i64 0]) 2 92 h fun t23 tY=>
aD (some 2) t23 t21 tY W fun nQ=>
n3 W R N E P x0 x5 t23 x8 x9 ax nQ
def n5:N6:=fun W R N E P x0 x5 x8 x9 ax ay h=>
aF ay (
n4 W R N E P x0 x5 x8 x9 ax h) (
E 0 [x5] h)
def n6:N5:=fun W R N E P x0 x5 x8 x9 ax h=>
ai Pg .lss 3 false ax x9 fun t26=>
n5 W R N E P x0 x5 x8 x9 ax t26 h
def cG:GK:=fun W R N E P N' vs h=>n6 W R N' (fun(i:Nat) (vs:List AV) (h:AH)=>if i=0 then n1 W R N E P (vs.getD 0 ab) h else E i vs h) P (vs.getD 0 ab) (vs.getD 1 ab) (vs.getD 2 ab) (vs.getD 3 ab) (vs.getD 4 ab) h
def n7:N5:=fun W R N E P x0 x5 x8 x9 ax h=>
dK (cG W R N E P) [x0,x5,x8,x9,ax] h
def n8:N3:=fun W R N E P x0 x1 x5 h=>
(aY x1=false)/\bL x1 fun t27=>
n7 W R N E P x0 x5 x1 t27 (.sc (.int .i64 0)) h
def n9:N2:=fun W R N E P x0 x1 h=>
n8 W R N E P x0 x1 (.sc (.slice none 0 0)) h
def aS:N2:=fun W R N E P x0 x1 h=>
n9 W R N E P x0 x1 h
theorem aM{x0 x1:AV}{h:AH}{M:WK}{R:RK}(hp:aS (fun id=>M id\/h.next<=id) (aJ Pg [.tmp 4] R) (aJ Pg [.tmp 4] R) (fun _ _ _=>False) (fun v h=>R (.bW v) h) x0 x1 h):aA Pg 66 [x0,x1] h M R:=
 fin (n:=30) (pl:=[(5,⟨[(none,(fr 0 15))],false,[],[]⟩)]) (rs:=[.tmp 4]) (L:=rs) (fun c=>(a2 aS 0 1 c)) Tryz.mixed Tryz.func66 (fun c=>
(sq (a2 aS 0 1 c)
(sq (a2 n9 0 1 c)
(sn
(sl (a1 n1 5 c))
(sq (a3 n8 0 1 5 c)
(bk 0 (lp [0,5,8,9,10] rs [(0,[5])] (a5 n7 0 5 8 9 10 c) cG (fun i vs h=>if i=0 then n1 c.W c.R c.N c.E c.P (vs.getD 0 ab) h else c.E i vs h) (.b (.t .o)) fun c=>
(sq (a5 n6 0 5 8 9 10 c)
(sn
(sn
(sm (a5 n2 0 5 8 9 10 c))
(bk 1 (sq (a5 n4 0 5 8 9 10 c)
(sm (a6 n3 0 5 7 8 9 10 c)))))
(cd (a6 n5 0 5 8 9 10 11 c) tr tr)))))))))) hp
attribute [simp] n1 n2 n3 n4 n5 n6 n8 n9 aS
end uj
namespace wW
abbrev rs:List Nat:=[8]
def n1:N0:=fun _ R _ _ _ h=>
R [(.sc (.bool true))] h
def n2:N2:=fun W R N E P x0 x3 h=>
aH x0 fun t1=>
ah (some 4) t1 fun t2=>
ao (some false) (some 1) t2 h fun t3 _=>
dG (some (1,3,[.int .i64 0])) 1 [(0,x3)] h fun t5 h6=>
fE (some (1,8,3)) t3 t5 h6 W fun t7 h8=>
aH x0 fun t9=>
ah (some 4) t9 fun t10=>
aD (some 1) t10 t7 h8 W fun mO=>
n1 W R N E P mO
def n3:N3:=fun W R N E P x0 x3 x5 h=>
aH x0 fun t12=>
ah (some 5) t12 fun t13=>
ah (some 2) t13 fun t14=>
ao (some false) (some 1) t14 h fun t15 _=>
ao (some true) (some 7) x5 h fun t17 _=>
dG (some (7,36,[.int .i64 0,.string ⟨#[]⟩,.slice none 0 0,.int .i64 0,.bool false,.int .u64 0,.int .u64 0])) 1 [(0,t17)] h fun t19 rU=>
fE (some (7,80,36)) t15 t19 rU W fun t21 sT=>
aH x0 fun t23=>
ah (some 5) t23 fun t24=>
ah (some 2) t24 fun t25=>
aD (some 1) t25 t21 sT W fun nP=>
n2 W R N E P x0 x3 nP
def n4:N4:=fun W R N E P x0 x3 x5 x6 h=>
∃Hd:Nat->Nat,(∀i∈[3,5],h.obj (Hd i)≠none)/\(
ah (some 0) x6 fun t27=>
ao (some false) (some 1) t27 h fun t28 _=>
ah (some 1) x6 fun t30=>
ao (some false) (some 1) t30 h fun t31 i32=>
(i32=Hd 3)/\(
ah (some 2) x6 fun t33=>
ao (some false) (some 1) t33 h fun t34 i35=>
(i35=Hd 5)/\(
ah (some 4) x5 fun t36=>
aD (some 1) t36 t28 h (iZ W Hd [3,5]) fun tX=>
ah (some 5) x5 fun t38=>
aD (some 1) t38 t31 tX (iZ W Hd [5]) fun tW=>
ah (some 6) x5 fun t40=>
aD (some 1) t40 t34 tW W fun wM=>
n3 W R N E P x0 x3 x5 wM)))
def n5:N0:=fun _ R _ _ _ h=>
R [(.sc (.bool false))] h
def n6:N2:=fun W R N E P x0 x3 h=>
aH x0 fun t42=>
ah (some 8) t42 fun t43=>
aD (some 1) t43 x3 h W fun wL=>
n5 W R N E P wL
def n7:N5:=fun W R N E P x0 x3 x5 x6 bC h=>
aF bC (
n6 W R N E P x0 x3 h) (
n4 W R N E P x0 x3 x5 x6 h)
def n8:N4:=fun W R N E P x0 x3 x5 x6 h=>
aH x0 fun t45=>
ah (some 5) t45 fun t46=>
ah (some 2) t46 fun t47=>
ao (some false) (some 1) t47 h fun t48 _=>
(aY t48=false)/\bL t48 fun t50=>
ai Pg .eql 3 true t50 (.sc (.int .i64 4096)) fun t51=>
n7 W R N E P x0 x3 x5 x6 t51 h
def n9:N4:=fun W R N E P x0 x1 x2 x3 h=>
eR 7 36 x1 h fun t52 tU=>
eR 3 79 x2 tU fun t54 sR=>
n8 W R N E P x0 x3 t52 t54 sR
theorem aM{x0 x1 x2 x3:AV}{h:AH}{M:WK}{R:RK}(hp:n9 (fun id=>M id\/h.next<=id) (aJ Pg [.tmp 8] R) (aJ Pg [.tmp 8] R) (fun _ _ _=>False) (fun v h=>R (.bW v) h) x0 x1 x2 x3 h):aA Pg 67 [x0,x1,x2,x3] h M R:=
 fin (n:=51) (pl:=[(4,⟨[(none,[(0,false),(1,false),(2,false),(3,true),(4,false),(5,true),(6,false),(7,false),(8,false),(9,false),(10,false),(11,false)])],true,[],[]⟩),(5,⟨[(none,(fr 0 13))],false,[],[]⟩)]) (rs:=[.tmp 8]) (L:=rs) (fun c=>(a4 n9 0 1 2 3 c)) Tryz.mixed Tryz.func67 (fun c=>
(sq (a4 n9 0 1 2 3 c)
(sn
(sn
(sq (a3 n3 0 3 5 c)
(sq (a2 n2 0 3 c)
(sl (a0 n1 c))))
(sm (a4 n4 0 3 5 6 c)))
(sq (a4 n8 0 3 5 6 c)
(cd (a5 n7 0 3 5 6 15 c) (sq (a2 n6 0 3 c)
(sl (a0 n5 c))) tr))))) hp
attribute [simp] n1 n2 n3 n4 n5 n6 n7 n8 n9
end wW
namespace fN
abbrev rs:List Nat:=[12]
def n1:N0:=fun _ R _ _ _ h=>
R [(.sc (.bool true))] h
def n2:N6:=fun _ _ N _ _ x0 x2 x3 x5 ax bg h=>
aH x0 fun t1=>
ah (some 0) t1 fun t2=>
ao (some false) (some 1) t2 h fun t3 _=>
bB (some (6,none)) t3 bg fun t5=>
ah (some 4) t5 fun t6=>
ao (some false) (some 1) t6 h fun t7 _=>
ai Pg .add 3 true (.sc (.int .i64 1)) t7 fun t9=>
ai Pg .add 3 false bg t9 fun t10=>
N [x0,x2,x3,x5,ax,t10] h
def n3:N0:=fun _ R _ _ _ h=>
R [(.sc (.bool false))] h
def n4:N7:=fun W R N E P x0 x2 x3 x5 ax bg jE h=>
aF jE (
n3 W R N E P h) (
n2 W R N E P x0 x2 x3 x5 ax bg h)
def n5:N8:=fun W R N E P x0 x2 x3 x5 ax bg aX dm h=>
ah (some 1) aX fun t11=>
ao (some false) (some 1) t11 h fun t12 _=>
ao (some true) (some 3) ax h fun t14 _=>
aq Pg W 65 [x0,t12,dm,t14,x5] h (fun t16 nR=>
iH .not t16 fun t18=>
n4 W R N E P x0 x2 x3 x5 ax bg t18 nR) P
def n6:Ek:=fun _ _ N _ _ x0 x2 x3 x5 ax bg aX dm oQ nH qS h=>
ai Pg .add 3 true qS (.sc (.int .i64 1)) fun t19=>
N [x0,x2,x3,x5,ax,bg,aX,dm,oQ,nH,t19] h
def n7:V7:=fun W R N E P x0 x2 x3 x5 ax bg aX dm n_ oQ nH qS h=>
ah (some 0) n_ fun t20=>
ao (some false) (some 1) t20 h fun t21 _=>
hG Pg (some (9,3)) x3 t21 false h fun t23 _=>
dG (some (1,3,[.int .i64 0])) 1 [(0,t23)] h fun t25 nP=>
fE (some (1,8,3)) dm t25 nP W fun t27 qc=>
n6 W R N E P x0 x2 x3 x5 ax bg aX t27 oQ nH qS qc
def n8:Ek:=fun W R N E P x0 x2 x3 x5 ax bg aX dm oQ nH qS h=>
bB (some (2,none)) oQ qS fun t29=>
ao (some true) (some 2) t29 h fun t30 _=>
bx (some [.string ⟨#[]⟩,.int .i64 0]) 2 92 h fun t32 uZ=>
aD (some 2) t32 t30 uZ W fun D6=>
n7 W R N E P x0 x2 x3 x5 ax bg aX dm t32 oQ nH qS D6
def n9:V7:=fun W R N E P x0 x2 x3 x5 ax bg aX dm oQ nH qS l8 h=>
aF l8 (
n8 W R N E P x0 x2 x3 x5 ax bg aX dm oQ nH qS h) (
E 4 [x0,x2,x3,x5,ax,bg,aX,dm] h)
def aS:Ek:=fun W R N E P x0 x2 x3 x5 ax bg aX dm oQ nH qS h=>
ai Pg .lss 3 false qS nH fun t35=>
n9 W R N E P x0 x2 x3 x5 ax bg aX dm oQ nH qS t35 h
def iX:GK:=fun W R N E P N' vs h=>aS W R N' (fun(i:Nat) (vs:List AV) (h:AH)=>if i=4 then n5 W R N E P (vs.getD 0 ab) (vs.getD 1 ab) (vs.getD 2 ab) (vs.getD 3 ab) (vs.getD 4 ab) (vs.getD 5 ab) (vs.getD 6 ab) (vs.getD 7 ab) h else if i=1 then n2 W R N E P (vs.getD 0 ab) (vs.getD 1 ab) (vs.getD 2 ab) (vs.getD 3 ab) (vs.getD 4 ab) (vs.getD 5 ab) h else E i vs h) P (vs.getD 0 ab) (vs.getD 1 ab) (vs.getD 2 ab) (vs.getD 3 ab) (vs.getD 4 ab) (vs.getD 5 ab) (vs.getD 6 ab) (vs.getD 7 ab) (vs.getD 8 ab) (vs.getD 9 ab) (vs.getD 10 ab) h
def bj:Ek:=fun W R N E P x0 x2 x3 x5 ax bg aX dm oQ nH qS h=>
dK (iX W R N E P) [x0,x2,x3,x5,ax,bg,aX,dm,oQ,nH,qS] h
def a_:N8:=fun W R N E P x0 x2 x3 x5 ax bg aX dm h=>
ah (some 2) aX fun t36=>
ao (some false) (some 1) t36 h fun t37 _=>
(aY t37=false)/\bL t37 fun t39=>
bj W R N E P x0 x2 x3 x5 ax bg aX dm t37 t39 (.sc (.int .i64 0)) h
def bH:N7:=fun W R N E P x0 x2 x3 x5 ax bg aX h=>
a_ W R N E P x0 x2 x3 x5 ax bg aX (.sc (.slice none 0 0)) h
def bP:N6:=fun W R N E P x0 x2 x3 x5 ax bg h=>
n2 W R N E P x0 x2 x3 x5 ax bg h
def bV:N8:=fun _ _ N _ _ x0 x2 x3 x5 ax bg aX bC h=>
ai Pg .add 3 true bC (.sc (.int .i64 1)) fun t40=>
N [x0,x2,x3,x5,ax,bg,aX,t40] h
def bR:N9:=fun W R N E P x0 x2 x3 x5 ax bg aX bC Td h=>
aF Td (
E 2 [x0,x2,x3,x5,ax,bg] h) (
bV W R N E P x0 x2 x3 x5 ax bg aX bC h)
def b5:N9:=fun W R N E P x0 x2 x3 x5 ax bg aX bC du h=>
aH x0 fun t41=>
ah (some 5) t41 fun t42=>
ah (some 2) t42 fun t43=>
ao (some false) (some 1) t43 h fun t44 _=>
(aY t44=false)/\bL t44 fun t46=>
ai Pg .eql 3 false t46 du fun t47=>
bR W R N E P x0 x2 x3 x5 ax bg aX bC t47 h
def ck:N0:=fun _ R _ _ _ h=>
R [(.sc (.bool false))] h
def cp:ru:=fun W R N E P x0 x2 x3 x5 ax bg aX bC du jc h=>
aF jc (
ck W R N E P h) (
b5 W R N E P x0 x2 x3 x5 ax bg aX bC du h)
def cP:N9:=fun W R N E P x0 x2 x3 x5 ax bg aX bC du h=>
ai Pg .add 3 true bg (.sc (.int .i64 1)) fun t48=>
ai Pg .add 3 true bg (.sc (.int .i64 1)) fun t49=>
ah (some 4) aX fun t50=>
ao (some false) (some 1) t50 h fun t51 _=>
ai Pg .add 3 false t49 t51 fun t53=>
ao (some true) (some 3) ax h fun t54 _=>
aq Pg W 89 [x0,t48,t53,x3,t54,x5] h (fun t56 tT=>
iH .not t56 fun t58=>
cp W R N E P x0 x2 x3 x5 ax bg aX bC du t58 tT) P
def cT:N8:=fun W R N E P x0 x2 x3 x5 ax bg aX bC h=>
aH x0 fun t59=>
ah (some 5) t59 fun t60=>
ah (some 2) t60 fun t61=>
ao (some false) (some 1) t61 h fun t62 _=>
(aY t62=false)/\bL t62 fun t64=>
cP W R N E P x0 x2 x3 x5 ax bg aX bC t64 h
def cw:N9:=fun W R N E P x0 x2 x3 x5 ax bg aX bC fY h=>
aF fY (
cT W R N E P x0 x2 x3 x5 ax bg aX bC h) (
E 2 [x0,x2,x3,x5,ax,bg] h)
def cL:N8:=fun W R N E P x0 x2 x3 x5 ax bg aX bC h=>
ah (some 3) aX fun t65=>
ao (some false) (some 1) t65 h fun t66 _=>
ai Pg .lss 3 false bC t66 fun t68=>
cw W R N E P x0 x2 x3 x5 ax bg aX bC t68 h
def pL:GK:=fun W R N E P N' vs h=>cL W R N' (fun(i:Nat) (vs:List AV) (h:AH)=>if i=2 then bP W R N E P (vs.getD 0 ab) (vs.getD 1 ab) (vs.getD 2 ab) (vs.getD 3 ab) (vs.getD 4 ab) (vs.getD 5 ab) h else if i=1 then n2 W R N E P (vs.getD 0 ab) (vs.getD 1 ab) (vs.getD 2 ab) (vs.getD 3 ab) (vs.getD 4 ab) (vs.getD 5 ab) h else E i vs h) P (vs.getD 0 ab) (vs.getD 1 ab) (vs.getD 2 ab) (vs.getD 3 ab) (vs.getD 4 ab) (vs.getD 5 ab) (vs.getD 6 ab) (vs.getD 7 ab) h
def cS:N8:=fun W R N E P x0 x2 x3 x5 ax bg aX bC h=>
dK (pL W R N E P) [x0,x2,x3,x5,ax,bg,aX,bC] h
def cF:N7:=fun W R N E P x0 x2 x3 x5 ax bg aX h=>
cS W R N E P x0 x2 x3 x5 ax bg aX (.sc (.int .i64 0)) h
def cC:N8:=fun W R N E P x0 x2 x3 x5 ax bg aX gZ h=>
aF gZ (
cF W R N E P x0 x2 x3 x5 ax bg aX h) (
bH W R N E P x0 x2 x3 x5 ax bg aX h)
def cB:N7:=fun W R N E P x0 x2 x3 x5 ax bg aX h=>
ah (some 0) aX fun t69=>
ao (some false) (some 1) t69 h fun t70 _=>
ai Pg .eql 9 true t70 (.sc (.string ⟨#[114,101,112,101,97,116]⟩)) fun t72=>
cC W R N E P x0 x2 x3 x5 ax bg aX t72 h
def c9:N6:=fun W R N E P x0 x2 x3 x5 ax bg h=>
aH x0 fun t73=>
ah (some 0) t73 fun t74=>
ao (some false) (some 1) t74 h fun t75 _=>
bB (some (6,none)) t75 bg fun t77=>
ao (some true) (some 6) t77 h fun t78 _=>
bx (some [.string ⟨#[]⟩,.string ⟨#[]⟩,.slice none 0 0,.int .i64 0,.int .i64 0,.int .i64 0]) 6 87 h fun t80 Gd=>
aD (some 6) t80 t78 Gd W fun xV=>
cB W R N E P x0 x2 x3 x5 ax bg t80 xV
def cU:N7:=fun W R N E P x0 x2 x3 x5 ax bg EN h=>
aF EN (
c9 W R N E P x0 x2 x3 x5 ax bg h) (
E 0 [] h)
def dn:N6:=fun W R N E P x0 x2 x3 x5 ax bg h=>
ai Pg .lss 3 false bg x2 fun t83=>
cU W R N E P x0 x2 x3 x5 ax bg t83 h
def cG:GK:=fun W R N E P N' vs h=>dn W R N' (fun(i:Nat) (vs:List AV) (h:AH)=>if i=0 then n1 W R N E P h else E i vs h) P (vs.getD 0 ab) (vs.getD 1 ab) (vs.getD 2 ab) (vs.getD 3 ab) (vs.getD 4 ab) (vs.getD 5 ab) h
def dS:N6:=fun W R N E P x0 x2 x3 x5 ax bg h=>
dK (cG W R N E P) [x0,x2,x3,x5,ax,bg] h
def dZ:N6:=fun W R N E P x0 x1 x2 x3 x5 ax h=>
dS W R N E P x0 x2 x3 x5 ax x1 h
def eC:N6:=fun W R N E P x0 x1 x2 x3 x4 x5 h=>
eR 3 79 x4 h fun t84 ri=>
dZ W R N E P x0 x1 x2 x3 x5 t84 ri
theorem aM{x0 x1 x2 x3 x4 x5:AV}{h:AH}{M:WK}{R:RK}(hp:eC (fun id=>M id\/h.next<=id) (aJ Pg [.tmp 12] R) (aJ Pg [.tmp 12] R) (fun _ _ _=>False) (fun v h=>R (.bW v) h) x0 x1 x2 x3 x4 x5 h):aA Pg 89 [x0,x1,x2,x3,x4,x5] h M R:=
 fin (n:=101) (pl:=[]) (rs:=[.tmp 12]) (L:=rs) (fun c=>(a6 eC 0 1 2 3 4 5 c)) Tryz.mixed Tryz.func89 (fun c=>
(sq (a6 eC 0 1 2 3 4 5 c)
(sn
(sl (a0 n1 c))
(sq (a6 dZ 0 1 2 3 5 10 c)
(bk 0 (lp [0,2,3,5,10,13] rs [(0,[])] (a6 dS 0 2 3 5 10 13 c) cG (fun i vs h=>if i=0 then n1 c.W c.R c.N c.E c.P h else c.E i vs h) (.b (.t .o)) fun c=>
(sn
(sn
(sm (a6 n2 0 2 3 5 10 13 c))
(bk 1 (sq (a6 c9 0 2 3 5 10 13 c)
(sn
(sq (a7 bH 0 2 3 5 10 13 14 c)
(sn
(sq (a8 n5 0 2 3 5 10 13 14 17 c)
(cd (a7 n4 0 2 3 5 10 13 100 c) (sl (a0 n3 c)) tr))
(sq (a8 a_ 0 2 3 5 10 13 14 17 c)
(bk 4 (lp [0,2,3,5,10,13,14,17,79,80,81] rs [(4,[0,2,3,5,10,13,14,17]),(1,[0,2,3,5,10,13]),(0,[])] (G4 bj 0 2 3 5 10 13 14 17 79 80 81 c) iX (fun i vs h=>if i=4 then n5 c.W c.R c.N c.E c.P (vs.getD 0 ab) (vs.getD 1 ab) (vs.getD 2 ab) (vs.getD 3 ab) (vs.getD 4 ab) (vs.getD 5 ab) (vs.getD 6 ab) (vs.getD 7 ab) h else if i=1 then n2 c.W c.R c.N c.E c.P (vs.getD 0 ab) (vs.getD 1 ab) (vs.getD 2 ab) (vs.getD 3 ab) (vs.getD 4 ab) (vs.getD 5 ab) h else c.E i vs h) (.b (.t (.b (.t .o)))) fun c=>
(sq (G4 aS 0 2 3 5 10 13 14 17 79 80 81 c)
(sn
(sn
(sm (G4 n6 0 2 3 5 10 13 14 17 79 80 81 c))
(bk 5 (sq (G4 n8 0 2 3 5 10 13 14 17 79 80 81 c)
(sm (a12 n7 0 2 3 5 10 13 14 17 19 79 80 81 c)))))
(cd (a12 n9 0 2 3 5 10 13 14 17 79 80 81 82 c) tr tr))))))))
(sq (a7 cB 0 2 3 5 10 13 14 c)
(cd (a8 cC 0 2 3 5 10 13 14 44 c) (sn
(sm (a6 bP 0 2 3 5 10 13 c))
(sq (a7 cF 0 2 3 5 10 13 14 c)
(bk 2 (lp [0,2,3,5,10,13,14,15] rs [(2,[0,2,3,5,10,13]),(1,[0,2,3,5,10,13]),(0,[])] (a8 cS 0 2 3 5 10 13 14 15 c) pL (fun i vs h=>if i=2 then bP c.W c.R c.N c.E c.P (vs.getD 0 ab) (vs.getD 1 ab) (vs.getD 2 ab) (vs.getD 3 ab) (vs.getD 4 ab) (vs.getD 5 ab) h else if i=1 then n2 c.W c.R c.N c.E c.P (vs.getD 0 ab) (vs.getD 1 ab) (vs.getD 2 ab) (vs.getD 3 ab) (vs.getD 4 ab) (vs.getD 5 ab) h else c.E i vs h) (.b (.t (.t (.b (.t .o))))) fun c=>
(sn
(sn
(sm (a8 bV 0 2 3 5 10 13 14 15 c))
(bk 3 (sq (a8 cT 0 2 3 5 10 13 14 15 c)
(sn
(sq (a9 b5 0 2 3 5 10 13 14 15 16 c)
(cd (a9 bR 0 2 3 5 10 13 14 15 77 c) tr tr))
(sq (a9 cP 0 2 3 5 10 13 14 15 16 c)
(cd (rY cp 0 2 3 5 10 13 14 15 16 69 c) (sl (a0 ck c)) tr))))))
(sq (a8 cL 0 2 3 5 10 13 14 15 c)
(cd (a9 cw 0 2 3 5 10 13 14 15 48 c) tr tr))))))) tr))))))
(sq (a6 dn 0 2 3 5 10 13 c)
(cd (a7 cU 0 2 3 5 10 13 23 c) tr tr))))))))) hp
attribute [simp] n1 n2 n3 n4 n5 n6 n7 n8 n9 aS a_ bH bP bV bR b5 ck cp cP cT cw cL cF cC cB c9 cU dn dZ eC
end fN
namespace dQ
abbrev rs:List Nat:=[8]
def n1:N0:=fun _ R _ _ _ h=>
R [(.sc (.bool true))] h
def n2:N4:=fun _ _ N _ _ x0 x2 x7 x9 h=>
aH x0 fun t1=>
ah (some 0) t1 fun t2=>
ao (some false) (some 1) t2 h fun t3 _=>
bB (some (6,none)) t3 x9 fun t5=>
ah (some 4) t5 fun t6=>
ao (some false) (some 1) t6 h fun t7 _=>
ai Pg .add 3 true (.sc (.int .i64 1)) t7 fun t9=>
ai Pg .add 3 false x9 t9 fun t10=>
N [x0,x2,x7,t10] h
def n3:N0:=fun _ R _ _ _ h=>
R [(.sc (.bool false))] h
def n4:N5:=fun W R N E P x0 x2 x7 x9 YZ h=>
aF YZ (
n3 W R N E P h) (
n2 W R N E P x0 x2 x7 x9 h)
def n5:N5:=fun W R N E P x0 x2 x7 x9 ay h=>
iH .not ay fun t11=>
n4 W R N E P x0 x2 x7 x9 t11 h
def n6:N7:=fun _ _ N _ _ x0 x2 x7 x9 ax ay aG h=>
ai Pg .add 3 true aG (.sc (.int .i64 1)) fun t12=>
N [x0,x2,x7,x9,ax,ay,t12] h
def n7:N8:=fun W R N E P x0 x2 x7 x9 ax ay aG Te h=>
aF Te (
E 3 [x0,x2,x7,x9,ay] h) (
n6 W R N E P x0 x2 x7 x9 ax ay aG h)
def n8:N8:=fun W R N E P x0 x2 x7 x9 ax ay aG bg h=>
aH x0 fun t13=>
ah (some 5) t13 fun t14=>
ah (some 2) t14 fun t15=>
ao (some false) (some 1) t15 h fun t16 _=>
(aY t16=false)/\bL t16 fun t18=>
ai Pg .eql 3 false t18 bg fun t19=>
n7 W R N E P x0 x2 x7 x9 ax ay aG t19 h
def n9:N7:=fun W R N E P x0 x2 x7 x9 ax aG bg h=>
ai Pg .add 3 true x9 (.sc (.int .i64 1)) fun t20=>
ai Pg .add 3 true x9 (.sc (.int .i64 1)) fun t21=>
ah (some 4) ax fun t22=>
ao (some false) (some 1) t22 h fun t23 _=>
ai Pg .add 3 false t21 t23 fun t25=>
ao (some true) (some 3) x7 h fun t26 _=>
aq Pg W 24 [x0,t20,t25,t26] h (fun t28 Ib=>
n8 W R N E P x0 x2 x7 x9 ax t28 aG bg Ib) P
def aS:N6:=fun W R N E P x0 x2 x7 x9 ax aG h=>
aH x0 fun t30=>
ah (some 5) t30 fun t31=>
ah (some 2) t31 fun t32=>
ao (some false) (some 1) t32 h fun t33 _=>
(aY t33=false)/\bL t33 fun t35=>
n9 W R N E P x0 x2 x7 x9 ax aG t35 h
def bj:N8:=fun W R N E P x0 x2 x7 x9 ax ay aG lL h=>
aF lL (
aS W R N E P x0 x2 x7 x9 ax aG h) (
E 3 [x0,x2,x7,x9,ay] h)
def a_:N9:=fun W R N E P x0 x2 x7 x9 ax ay aG fY jO h=>
aO fY jO (.sc (.bool false)) fun t36=>
bj W R N E P x0 x2 x7 x9 ax ay aG t36 h
def bH:N8:=fun W R N E P x0 x2 x7 x9 ax ay aG fY h=>
bw true fY (
a_ W R N E P x0 x2 x7 x9 ax ay aG fY ay h) (
a_ W R N E P x0 x2 x7 x9 ax ay aG fY ab h)
def bP:N7:=fun W R N E P x0 x2 x7 x9 ax ay aG h=>
ah (some 3) ax fun t37=>
ao (some false) (some 1) t37 h fun t38 _=>
ai Pg .lss 3 false aG t38 fun t40=>
bH W R N E P x0 x2 x7 x9 ax ay aG t40 h
def iX:GK:=fun W R N E P N' vs h=>bP W R N' (fun(i:Nat) (vs:List AV) (h:AH)=>if i=3 then n5 W R N E P (vs.getD 0 ab) (vs.getD 1 ab) (vs.getD 2 ab) (vs.getD 3 ab) (vs.getD 4 ab) h else if i=2 then n5 W R N E P (vs.getD 0 ab) (vs.getD 1 ab) (vs.getD 2 ab) (vs.getD 3 ab) (vs.getD 4 ab) h else if i=1 then n2 W R N E P (vs.getD 0 ab) (vs.getD 1 ab) (vs.getD 2 ab) (vs.getD 3 ab) h else E i vs h) P (vs.getD 0 ab) (vs.getD 1 ab) (vs.getD 2 ab) (vs.getD 3 ab) (vs.getD 4 ab) (vs.getD 5 ab) (vs.getD 6 ab) h
def bV:N7:=fun W R N E P x0 x2 x7 x9 ax ay aG h=>
dK (iX W R N E P) [x0,x2,x7,x9,ax,ay,aG] h
def bR:N6:=fun W R N E P x0 x2 x7 x9 ax ay h=>
bV W R N E P x0 x2 x7 x9 ax ay (.sc (.int .i64 0)) h
def b5:N7:=fun W R N E P x0 x2 x7 x9 ax bC du h=>
ai Pg .add 3 true x9 (.sc (.int .i64 1)) fun t41=>
ai Pg .add 3 true x9 (.sc (.int .i64 1)) fun t42=>
ah (some 4) ax fun t43=>
ao (some false) (some 1) t43 h fun t44 _=>
ai Pg .add 3 false t42 t44 fun t46=>
ah (some 1) x7 fun t47=>
ao (some false) (some 1) t47 h fun t48 _=>
ai Pg .or 34 false t48 bC fun t50=>
ah (some 2) x7 fun t51=>
ao (some false) (some 1) t51 h fun t52 _=>
ai Pg .or 34 false t52 du fun t54=>
cN (some ([.bool false,.int .u64 0,.int .u64 0],.inl [(0,1),(1,1),(2,1)])) [(0,(.sc (.bool true))),(1,t50),(2,t54)] fun t55=>
aq Pg W 24 [x0,t41,t46,t55] h (fun t56 tT=>
n5 W R N E P x0 x2 x7 x9 t56 tT) P
def ck:N8:=fun W R N E P x0 x2 x7 x9 ax bC du Zm h=>
aF Zm (
n2 W R N E P x0 x2 x7 x9 h) (
b5 W R N E P x0 x2 x7 x9 ax bC du h)
def cp:N7:=fun W R N E P x0 x2 x7 x9 ax bC du h=>
ah (some 2) x7 fun t58=>
ao (some false) (some 1) t58 h fun t59 _=>
ai Pg .and 34 false t59 bC fun t61=>
ah (some 1) x7 fun t62=>
ao (some false) (some 1) t62 h fun t63 _=>
ai Pg .and 34 false du t63 fun t65=>
ai Pg .neq 34 false t61 t65 fun t66=>
ck W R N E P x0 x2 x7 x9 ax bC du t66 h
def cP:N7:=fun W R N E P x0 x2 x7 x9 ax aX bC h=>
ah (some 3) ax fun t67=>
ao (some false) (some 1) t67 h fun t68 _=>
ql (some .u64) t68 fun t70=>
ah (some 0) aX fun t71=>
ao (some false) (some 1) t71 h fun t72 _=>
ai Pg .shl 34 false t70 t72 fun t74=>
cp W R N E P x0 x2 x7 x9 ax bC t74 h
def cT:N6:=fun W R N E P x0 x2 x7 x9 ax aX h=>
ah (some 1) aX fun t75=>
ao (some false) (some 1) t75 h fun t76 _=>
ai Pg .shl 34 true (.sc (.int .u64 1)) t76 fun t78=>
ai Pg .sub 34 true t78 (.sc (.int .u64 1)) fun t79=>
ah (some 0) aX fun t80=>
ao (some false) (some 1) t80 h fun t81 _=>
ai Pg .shl 34 false t79 t81 fun t83=>
cP W R N E P x0 x2 x7 x9 ax aX t83 h
def cw:N5:=fun W R N E P x0 x2 x7 x9 ax h=>
aH x0 fun t84=>
ah (some 2) t84 fun t85=>
ao (some false) (some 1) t85 h fun t86 _=>
ah (some 1) ax fun t88=>
ao (some false) (some 1) t88 h fun t89 _=>
hG Pg (some (9,118)) t86 t89 false h fun t91 _=>
bx (some [.int .i64 0,.int .i64 0]) 2 118 h fun t93 B_=>
aD (some 2) t93 t91 B_ W fun Vg=>
cT W R N E P x0 x2 x7 x9 ax t93 Vg
def cL:N5:=fun W R N E P x0 x2 x7 x9 ax h=>
∃Hd:Nat->Nat,(∀i∈[2,7,9],h.obj (Hd i)≠none)/\(
ah (some 1) ax fun t96=>
ao (some false) (some 1) t96 h fun t97 i98=>
(i98=Hd 2)/\(
ah (some 2) ax fun t99=>
ao (some false) (some 1) t99 h fun t100 _=>
ao (some true) (some 3) x7 h fun t102 i103=>
(i103=Hd 7)/\(
ah (some 5) ax fun t104=>
ao (some false) (some 1) t104 h fun t105 i106=>
(i106=Hd 9)/\(
aq Pg (iZ W Hd [2,7,9]) 66 [x0,t100] h (fun t107 vQ=>
aq Pg W 65 [x0,t97,t107,t102,t105] vQ (fun t109 Gs=>
n5 W R N E P x0 x2 x7 x9 t109 Gs) P) P))))
def cS:N6:=fun W R N E P x0 x2 x7 x9 ax dm h=>
∃Hd:Nat->Nat,(∀i∈[8,10],h.obj (Hd i)≠none)/\(
ah (some 2) ax fun t111=>
ao (some false) (some 1) t111 h fun t112 _=>
ur (some 2) t112 none (some (.sc (.int .i64 1))) h fun t114=>
ao (some true) (some 3) x7 h fun t115 i116=>
(i116=Hd 8)/\(
ah (some 5) ax fun t117=>
ao (some false) (some 1) t117 h fun t118 i119=>
(i119=Hd 10)/\(
aq Pg (iZ W Hd [8,10]) 66 [x0,t114] h (fun t120 Ob=>
cN (some ([.int .i64 0,.string ⟨#[]⟩,.slice none 0 0,.int .i64 0,.bool false,.int .u64 0,.int .u64 0],.inl [(0,1),(1,1),(2,1),(3,1),(4,1),(5,1),(6,1)])) [(0,(.sc (.int .i64 2))),(2,t120),(3,dm)] fun t122=>
aq Pg W 67 [x0,t122,t115,t118] Ob (fun t123 Gp=>
n5 W R N E P x0 x2 x7 x9 t123 Gp) P) P)))
def cF:N5:=fun W R N E P x0 x2 x7 x9 ax h=>
aH x0 fun t125=>
ah (some 2) t125 fun t126=>
ao (some false) (some 1) t126 h fun t127 _=>
ah (some 2) ax fun t129=>
ao (some false) (some 1) t129 h fun t130 _=>
bB (some (2,none)) t130 (.sc (.int .i64 1)) fun t132=>
ah (some 0) t132 fun t133=>
ao (some false) (some 1) t133 h fun t134 _=>
hG Pg (some (9,118)) t127 t134 false h fun t136 _=>
m9 (some (0,1,false)) t136 fun t138=>
ah (some 2) ax fun t139=>
ao (some false) (some 1) t139 h fun t140 _=>
bB (some (2,none)) t140 (.sc (.int .i64 1)) fun t142=>
ah (some 1) t142 fun t143=>
ao (some false) (some 1) t143 h fun t144 _=>
ai Pg .add 3 false t138 t144 fun t146=>
cS W R N E P x0 x2 x7 x9 ax t146 h
def cC:N5:=fun W R N E P x0 x2 x7 x9 ax h=>
∃Hd:Nat->Nat,(∀i∈[6,8],h.obj (Hd i)≠none)/\(
ah (some 2) ax fun t147=>
ao (some false) (some 1) t147 h fun t148 _=>
ao (some true) (some 3) x7 h fun t150 i151=>
(i151=Hd 6)/\(
ah (some 5) ax fun t152=>
ao (some false) (some 1) t152 h fun t153 i154=>
(i154=Hd 8)/\(
aq Pg (iZ W Hd [6,8]) 66 [x0,t148] h (fun t155 aba=>
cN (some ([.int .i64 0,.string ⟨#[]⟩,.slice none 0 0,.int .i64 0,.bool false,.int .u64 0,.int .u64 0],.inl [(0,1),(1,1),(2,1),(3,1),(4,1),(5,1),(6,1)])) [(0,(.sc (.int .i64 3))),(2,t155)] fun t157=>
aq Pg W 67 [x0,t157,t150,t153] aba (fun t158 Gm=>
n5 W R N E P x0 x2 x7 x9 t158 Gm) P) P)))
def cB:N7:=fun W R N E P x0 x2 x7 x9 ax ay Y3 h=>
aF Y3 (
cC W R N E P x0 x2 x7 x9 ax h) (
n5 W R N E P x0 x2 x7 x9 ay h)
def c9:N7:=fun W R N E P x0 x2 x7 x9 ax ay kR h=>
ai Pg .eql 9 true kR (.sc (.string ⟨#[114,101,115,101,116]⟩)) fun t160=>
cB W R N E P x0 x2 x7 x9 ax ay t160 h
def cU:N8:=fun W R N E P x0 x2 x7 x9 ax ay kR Za h=>
aF Za (
cF W R N E P x0 x2 x7 x9 ax h) (
c9 W R N E P x0 x2 x7 x9 ax ay kR h)
def dn:N7:=fun W R N E P x0 x2 x7 x9 ax ay kR h=>
ai Pg .eql 9 true kR (.sc (.string ⟨#[109,101,97,115,117,114,101]⟩)) fun t161=>
cU W R N E P x0 x2 x7 x9 ax ay kR t161 h
def dS:N8:=fun W R N E P x0 x2 x7 x9 ax ay kR MH h=>
aF MH (
cL W R N E P x0 x2 x7 x9 ax h) (
dn W R N E P x0 x2 x7 x9 ax ay kR h)
def dZ:N7:=fun W R N E P x0 x2 x7 x9 ax ay kR h=>
ai Pg .eql 9 true kR (.sc (.string ⟨#[117,115,101]⟩)) fun t162=>
dS W R N E P x0 x2 x7 x9 ax ay kR t162 h
def eC:N8:=fun W R N E P x0 x2 x7 x9 ax ay kR Td h=>
aF Td (
cw W R N E P x0 x2 x7 x9 ax h) (
dZ W R N E P x0 x2 x7 x9 ax ay kR h)
def fl:N7:=fun W R N E P x0 x2 x7 x9 ax ay kR h=>
ai Pg .eql 9 true kR (.sc (.string ⟨#[105,102]⟩)) fun t163=>
eC W R N E P x0 x2 x7 x9 ax ay kR t163 h
def fM:N8:=fun W R N E P x0 x2 x7 x9 ax ay kR qU h=>
aF qU (
bR W R N E P x0 x2 x7 x9 ax ay h) (
fl W R N E P x0 x2 x7 x9 ax ay kR h)
def fu:N7:=fun W R N E P x0 x2 x7 x9 ax ay kR h=>
ai Pg .eql 9 true kR (.sc (.string ⟨#[114,101,112,101,97,116]⟩)) fun t164=>
fM W R N E P x0 x2 x7 x9 ax ay kR t164 h
def fD:N6:=fun W R N E P x0 x2 x7 x9 ax ay h=>
ah (some 0) ax fun t165=>
ao (some false) (some 1) t165 h fun t166 _=>
fu W R N E P x0 x2 x7 x9 ax ay t166 h
def fL:N5:=fun W R N E P x0 x2 x7 x9 ax h=>
fD W R N E P x0 x2 x7 x9 ax (.sc (.bool true)) h
def fk:N4:=fun W R N E P x0 x2 x7 x9 h=>
aH x0 fun t168=>
ah (some 0) t168 fun t169=>
ao (some false) (some 1) t169 h fun t170 _=>
bB (some (6,none)) t170 x9 fun t172=>
ao (some true) (some 6) t172 h fun t173 _=>
bx (some [.string ⟨#[]⟩,.string ⟨#[]⟩,.slice none 0 0,.int .i64 0,.int .i64 0,.int .i64 0]) 6 87 h fun t175 aa5=>
aD (some 6) t175 t173 aa5 W fun NW=>
fL W R N E P x0 x2 x7 x9 t175 NW
def fQ:N5:=fun W R N E P x0 x2 x7 x9 qV h=>
aF qV (
fk W R N E P x0 x2 x7 x9 h) (
E 0 [] h)
def e_:N4:=fun W R N E P x0 x2 x7 x9 h=>
ai Pg .lss 3 false x9 x2 fun t178=>
fQ W R N E P x0 x2 x7 x9 t178 h
def cG:GK:=fun W R N E P N' vs h=>e_ W R N' (fun(i:Nat) (vs:List AV) (h:AH)=>if i=0 then n1 W R N E P h else E i vs h) P (vs.getD 0 ab) (vs.getD 1 ab) (vs.getD 2 ab) (vs.getD 3 ab) h
def gf:N4:=fun W R N E P x0 x2 x7 x9 h=>
dK (cG W R N E P) [x0,x2,x7,x9] h
def fZ:N4:=fun W R N E P x0 x1 x2 x7 h=>
gf W R N E P x0 x2 x7 x1 h
def fC:N4:=fun W R N E P x0 x1 x2 x3 h=>
eR 3 79 x3 h fun t179 NV=>
fZ W R N E P x0 x1 x2 t179 NV
theorem aM{x0 x1 x2 x3:AV}{h:AH}{M:WK}{R:RK}(hp:fC (fun id=>M id\/h.next<=id) (aJ Pg [.tmp 8] R) (aJ Pg [.tmp 8] R) (fun _ _ _=>False) (fun v h=>R (.bW v) h) x0 x1 x2 x3 h):aA Pg 24 [x0,x1,x2,x3] h M R:=
 fin (n:=184) (pl:=[(9,⟨[(none,(fr 0 5)),(some (4,true),(fr 5 1)),(none,(fr 6 1))],false,[],[]⟩),(15,⟨[(none,(fr 0 9))],false,[],[]⟩),(16,⟨[(none,(fr 0 8))],false,[],[]⟩),(21,⟨[(none,[(0,false),(1,false),(2,true),(3,false),(4,false),(5,false),(7,true),(8,false),(9,true),(6,false),(10,false),(11,false)])],true,[],[]⟩),(23,⟨[(none,(fr 0 18))],false,[],[]⟩),(24,⟨[(none,[(0,false),(1,false),(2,false),(3,false),(4,false),(6,false),(8,true),(9,false),(10,true),(5,false),(7,false),(11,false),(12,false)])],true,[],[]⟩),(26,⟨[(none,[(0,false),(1,false),(2,false),(3,false),(6,true),(7,false),(8,true),(4,false),(5,false),(9,false),(10,false)])],true,[],[]⟩)]) (rs:=[.tmp 8]) (L:=rs) (fun c=>(a4 fC 0 1 2 3 c)) Tryz.mixed Tryz.func24 (fun c=>
(sq (a4 fC 0 1 2 3 c)
(sn
(sl (a0 n1 c))
(sq (a4 fZ 0 1 2 7 c)
(bk 0 (lp [0,2,7,9] rs [(0,[])] (a4 gf 0 2 7 9 c) cG (fun i vs h=>if i=0 then n1 c.W c.R c.N c.E c.P h else c.E i vs h) (.b (.t .o)) fun c=>
(sn
(sn
(sm (a4 n2 0 2 7 9 c))
(bk 1 (sq (a4 fk 0 2 7 9 c)
(sq (a5 fL 0 2 7 9 10 c)
(sn
(sq (a5 n5 0 2 7 9 11 c)
(cd (a5 n4 0 2 7 9 183 c) (sl (a0 n3 c)) tr))
(sq (a6 fD 0 2 7 9 10 11 c)
(bk 2 (sq (a7 fu 0 2 7 9 10 11 41 c)
(cd (a8 fM 0 2 7 9 10 11 41 42 c) (sq (a6 bR 0 2 7 9 10 11 c)
(bk 3 (lp [0,2,7,9,10,11,12] rs [(3,[0,2,7,9,11]),(2,[0,2,7,9,11]),(1,[0,2,7,9]),(0,[])] (a7 bV 0 2 7 9 10 11 12 c) iX (fun i vs h=>if i=3 then n5 c.W c.R c.N c.E c.P (vs.getD 0 ab) (vs.getD 1 ab) (vs.getD 2 ab) (vs.getD 3 ab) (vs.getD 4 ab) h else if i=2 then n5 c.W c.R c.N c.E c.P (vs.getD 0 ab) (vs.getD 1 ab) (vs.getD 2 ab) (vs.getD 3 ab) (vs.getD 4 ab) h else if i=1 then n2 c.W c.R c.N c.E c.P (vs.getD 0 ab) (vs.getD 1 ab) (vs.getD 2 ab) (vs.getD 3 ab) h else c.E i vs h) (.b (.b (.t (.b (.t .o))))) fun c=>
(sn
(sn
(sm (a7 n6 0 2 7 9 10 11 12 c))
(bk 4 (sq (a6 aS 0 2 7 9 10 12 c)
(sq (a7 n9 0 2 7 9 10 12 13 c)
(sq (a8 n8 0 2 7 9 10 11 12 13 c)
(cd (a8 n7 0 2 7 9 10 11 12 76 c) tr tr))))))
(sn
(cd (a8 bj 0 2 7 9 10 11 12 50 c) tr tr)
(gr (gn (a7 bP 0 2 7 9 10 11 12 c) (gx (a8 bH 0 2 7 9 10 11 12 48 c) (gl (a9 a_ 0 2 7 9 10 11 12 48 49 c)))))))))) (sq (a7 fl 0 2 7 9 10 11 41 c)
(cd (a8 eC 0 2 7 9 10 11 41 77 c) (sq (a5 cw 0 2 7 9 10 c)
(sq (a6 cT 0 2 7 9 10 14 c)
(sq (a7 cP 0 2 7 9 10 14 15 c)
(sn
(sm (a7 b5 0 2 7 9 10 15 16 c))
(sq (a7 cp 0 2 7 9 10 15 16 c)
(cd (a8 ck 0 2 7 9 10 15 16 107 c) tr tr)))))) (sq (a7 dZ 0 2 7 9 10 11 41 c)
(cd (a8 dS 0 2 7 9 10 11 41 126 c) (sm (a5 cL 0 2 7 9 10 c)) (sq (a7 dn 0 2 7 9 10 11 41 c)
(cd (a8 cU 0 2 7 9 10 11 41 139 c) (sq (a5 cF 0 2 7 9 10 c)
(sm (a6 cS 0 2 7 9 10 17 c))) (sq (a7 c9 0 2 7 9 10 11 41 c)
(cd (a7 cB 0 2 7 9 10 11 170 c) (sm (a5 cC 0 2 7 9 10 c)) tr)))))))))))))))))
(sq (a4 e_ 0 2 7 9 c)
(cd (a5 fQ 0 2 7 9 21 c) tr tr))))))))) hp
attribute [simp] n1 n2 n3 n4 n5 n6 n7 n8 n9 aS bj a_ bH bP bR b5 ck cp cP cT cw cL cS cF cC cB c9 cU dn dS dZ eC fl fM fu fD fL fk fQ e_ fZ fC
end dQ
end
end Go.Proofs.YtjehibknlmehmaaGreat
