/- Bodies of the law, of alive and Read; printed. No condition. -/
import Derived.Test.YtjehibknlmehmaaGl
set_option maxRecDepth 100000
namespace Go.Proofs.Ytjehibknlmehmaa
section
open Go.Ab
namespace F7
abbrev rs:List Nat:=[0]
def n1:N1:=fun _ R _ _ _ x0 h=>
R [x0] h
def n2:N2:=fun W R N E P Eb D_ h=>
aV Eb D_ (.sc (.bool false)) fun t1=>
n1 W R N E P t1 h
def n3:N2:=fun W R N E P x1 Eb h=>
bF true Eb (
ai (some 2) x1 fun t2=>
al (some false) (some 1) t2 h fun t3 _=>
br (some (7,none)) t3 (.sc (.int .i64 1)) fun t5=>
ai (some 6) t5 fun t6=>
al (some false) (some 1) t6 h fun t7 _=>
ah Pg .eql 47 true t7 (.sc (.int .u64 4)) fun t9=>
n2 W R N E P Eb t9 h) (
n2 W R N E P Eb aa h)
def n4:N3:=fun W R N E P x1 oq SU h=>
aV oq SU (.sc (.bool false)) fun t10=>
n3 W R N E P x1 t10 h
def n5:N2:=fun W R N E P x1 oq h=>
bF true oq (
ai (some 2) x1 fun t11=>
al (some false) (some 1) t11 h fun t12 _=>
br (some (7,none)) t12 (.sc (.int .i64 1)) fun t14=>
ai (some 5) t14 fun t15=>
al (some false) (some 1) t15 h fun t16 _=>
ah Pg .eql 47 true t16 (.sc (.int .u64 4)) fun t18=>
n4 W R N E P x1 oq t18 h) (
n4 W R N E P x1 oq aa h)
def n6:N3:=fun W R N E P x1 Ec SX h=>
aV Ec SX (.sc (.bool false)) fun t19=>
n5 W R N E P x1 t19 h
def n7:N2:=fun W R N E P x1 Ec h=>
bF true Ec (
ai (some 2) x1 fun t20=>
al (some false) (some 1) t20 h fun t21 _=>
br (some (7,none)) t21 (.sc (.int .i64 1)) fun t23=>
ai (some 4) t23 fun t24=>
al (some false) (some 1) t24 h fun t25 _=>
n6 W R N E P x1 Ec t25 h) (
n6 W R N E P x1 Ec aa h)
def n8:N3:=fun W R N E P x1 Au iH h=>
aV Au iH (.sc (.bool false)) fun t27=>
n7 W R N E P x1 t27 h
def n9:N2:=fun W R N E P x1 Au h=>
bF true Au (
ai (some 2) x1 fun t28=>
al (some false) (some 1) t28 h fun t29 _=>
br (some (7,none)) t29 (.sc (.int .i64 0)) fun t31=>
ai (some 3) t31 fun t32=>
al (some false) (some 1) t32 h fun t33 _=>
ah Pg .eql 3 true t33 (.sc (.int .i64 2)) fun t35=>
n8 W R N E P x1 Au t35 h) (
n8 W R N E P x1 Au aa h)
def aQ:N3:=fun W R N E P x1 we S0 h=>
aV we S0 (.sc (.bool false)) fun t36=>
n9 W R N E P x1 t36 h
def a_:N2:=fun W R N E P x1 we h=>
bF true we (
ai (some 2) x1 fun t37=>
al (some false) (some 1) t37 h fun t38 _=>
(ba t38=false)/\bK t38 fun t40=>
ah Pg .eql 3 true t40 (.sc (.int .i64 2)) fun t41=>
aQ W R N E P x1 we t41 h) (
aQ W R N E P x1 we aa h)
def bc:N3:=fun W R N E P x1 wg iI h=>
aV wg iI (.sc (.bool false)) fun t42=>
a_ W R N E P x1 t42 h
def bt:N2:=fun W R N E P x1 wg h=>
bF true wg (
ai (some 1) x1 fun t43=>
al (some false) (some 1) t43 h fun t44 _=>
ah Pg .eql 3 true t44 (.sc (.int .i64 3)) fun t46=>
bc W R N E P x1 wg t46 h) (
bc W R N E P x1 wg aa h)
def bD:N1:=fun W R N E P x1 h=>
ai (some 0) x1 fun t47=>
al (some false) (some 1) t47 h fun t48 _=>
ah Pg .eql 3 true t48 (.sc (.int .i64 1)) fun t50=>
bt W R N E P x1 t50 h
def bC:N0:=fun _ R _ _ _ h=>
R [(.sc (.bool false))] h
def bz:N2:=fun W R N E P x1 fJ h=>
aH fJ (
bC W R N E P h) (
bD W R N E P x1 h)
def bH:N3:=fun W R N E P x1 gL jI h=>
aV gL (.sc (.bool true)) jI fun t51=>
bz W R N E P x1 t51 h
def bO:N3:=fun W R N E P x1 x8 gL h=>
bF false gL (
ah Pg .neq 3 true x8 (.sc (.int .i64 26)) fun t52=>
bH W R N E P x1 gL t52 h) (
bH W R N E P x1 gL aa h)
def bQ:N4:=fun W R N E P x1 x8 ke mP h=>
aV ke (.sc (.bool true)) mP fun t53=>
bO W R N E P x1 x8 t53 h
def b_:N4:=fun W R N E P x1 x8 x9 ke h=>
bF false ke (
ah Pg .neq 30 true x9 (.sc (.int .i64 115)) fun t54=>
bQ W R N E P x1 x8 ke t54 h) (
bQ W R N E P x1 x8 ke aa h)
def cp:N5:=fun W R N E P x1 x8 x9 kf wh h=>
aV kf (.sc (.bool true)) wh fun t55=>
b_ W R N E P x1 x8 x9 t55 h
def bW:N5:=fun W R N E P x1 x5 x8 x9 kf h=>
bF false kf (
ah Pg .neq 3 true x5 (.sc (.int .i64 11)) fun t56=>
cp W R N E P x1 x8 x9 kf t56 h) (
cp W R N E P x1 x8 x9 kf aa h)
def cb:N6:=fun W R N E P x1 x5 x8 x9 ib oW h=>
aV ib (.sc (.bool true)) oW fun t57=>
bW W R N E P x1 x5 x8 x9 t57 h
def cn:N6:=fun W R N E P x1 x5 x6 x8 x9 ib h=>
bF false ib (
ah Pg .neq 30 true x6 (.sc (.int .i64 114)) fun t58=>
cb W R N E P x1 x5 x8 x9 ib t58 h) (
cb W R N E P x1 x5 x8 x9 ib aa h)
def cj:N7:=fun W R N E P x1 x5 x6 x8 x9 pS gX h=>
aV pS (.sc (.bool true)) gX fun t59=>
cn W R N E P x1 x5 x6 x8 x9 t59 h
def cl:N7:=fun W R N E P x1 x2 x5 x6 x8 x9 pS h=>
bF false pS (
ah Pg .neq 3 true x2 (.sc (.int .i64 0)) fun t60=>
cj W R N E P x1 x5 x6 x8 x9 pS t60 h) (
cj W R N E P x1 x5 x6 x8 x9 pS aa h)
def bV:N8:=fun W R N E P x1 x2 x5 x6 x8 x9 lf wk h=>
aV lf (.sc (.bool true)) wk fun t61=>
cl W R N E P x1 x2 x5 x6 x8 x9 t61 h
def cy:N8:=fun W R N E P x1 x2 x3 x5 x6 x8 x9 lf h=>
bF false lf (
ah Pg .neq 30 true x3 (.sc (.int .i64 0)) fun t62=>
bV W R N E P x1 x2 x5 x6 x8 x9 lf t62 h) (
bV W R N E P x1 x2 x5 x6 x8 x9 lf aa h)
def cz:N7:=fun W R N E P x1 x2 x3 x5 x6 x8 x9 h=>
cy W R N E P x1 x2 x3 x5 x6 x8 x9 (.sc (.bool false)) h
def cK:N5:=fun W R N E P x1 x2 x3 x5 x6 h=>
aC Pg W 12 [(.sc (.string ⟨#[113,117,98,105,116,115,32,113,32,49,59,32,114,101,112,101,97,116,32,53,48,48,48,32,123,32,120,32,113,91,48,93,59,32,125]⟩))] h (fun t63 yS=>
dm t63 0 fun t65=>
dm t63 1 fun t66=>
dm t63 2 fun t67=>
bw (some [.int .i64 0,.int .i64 0,.slice none 0 0]) 3 27 yS fun t68 FF=>
aG (some 3) t68 t65 FF W fun xc=>
cz W R N E P x1 x2 x3 x5 x6 t66 t67 xc) P
def da:N3:=fun W R N E P x1 x2 x3 h=>
aC Pg W 12 [(.sc (.string ⟨#[103,97,116,101,32,103,32,120,32,123,32,103,32,120,59,32,125]⟩))] h (fun t71 FE=>
dm t71 0 fun t73=>
dm t71 1 fun t74=>
dm t71 2 fun t75=>
bw (some [.int .i64 0,.int .i64 0,.slice none 0 0]) 3 27 FE fun t76 Vh=>
aG (some 3) t76 t73 Vh W fun FB=>
cK W R N E P x1 x2 x3 t74 t75 FB) P
def cT:N0:=fun W R N E P h=>
aC Pg W 12 [(.sc (.string ⟨#[113,117,98,105,116,115,32,113,32,49,59,32,98,105,116,115,32,99,32,50,59,32,98,105,116,115,32,100,32,49,59,32,109,101,97,115,117,114,101,32,113,91,48,93,32,100,91,48,93,59,32,105,102,32,100,32,49,32,123,32,120,32,113,91,48,93,59,32,125]⟩))] h (fun t79 w_=>
dm t79 0 fun t81=>
dm t79 1 fun t82=>
dm t79 2 fun t83=>
bw (some [.int .i64 0,.int .i64 0,.slice none 0 0]) 3 27 w_ fun t84 rP=>
aG (some 3) t84 t81 rP W fun Ve=>
da W R N E P t84 t82 t83 Ve) P
def dx:N0:=fun W R N E P h=>
cT W R N E P h
theorem aM{h:AH}{M:WK}{R:RK}(hp:dx (fun id=>M id\/h.next<=id) (aJ Pg [.tmp 0] R) (aJ Pg [.tmp 0] R) (fun _ _ _=>False) (fun v h=>R (.cg v) h) h):aE Pg 7 [] h M R:=
 fin (n:=94) (pl:=[(4,⟨[(none,(fr 0 1)),(some (0,false),(fr 1 2)),(none,(fr 3 2)),(some (4,false),(fr 5 2)),(none,(fr 7 2)),(some (8,false),(fr 9 2)),(none,(fr 11 2)),(some (12,false),(fr 13 2)),(none,(fr 15 2)),(some (16,false),(fr 17 2)),(none,(fr 19 2)),(some (20,false),(fr 21 2)),(none,(fr 23 1))],false,[],[]⟩),(6,⟨[(none,(fr 0 4)),(some (3,true),(fr 4 3)),(none,(fr 7 2)),(some (8,true),(fr 9 4)),(none,(fr 13 2)),(some (14,true),(fr 15 6)),(none,(fr 21 2)),(some (22,true),(fr 23 5)),(none,(fr 28 2)),(some (29,true),(fr 30 6)),(none,(fr 36 2)),(some (37,true),(fr 38 6)),(none,(fr 44 2))],false,[],[]⟩)]) (rs:=[.tmp 0]) (L:=rs) (fun c=>(a0 dx c)) Try.mixed Try.func7 (fun c=>
(sq (a0 dx c)
(sq (a0 cT c)
(sq (a3 da 1 2 3 c)
(sq (a5 cK 1 2 3 5 6 c)
(sn
(sn
(sm (a1 n1 0 c))
(gr (gn (a1 bD 1 c) (gx (a2 bt 1 52 c) (gn (a3 bc 1 52 55 c) (gx (a2 a_ 1 57 c) (gn (a3 aQ 1 57 61 c) (gx (a2 n9 1 63 c) (gn (a3 n8 1 63 69 c) (gx (a2 n7 1 71 c) (gn (a3 n6 1 71 76 c) (gx (a2 n5 1 78 c) (gn (a3 n4 1 78 84 c) (gx (a2 n3 1 86 c) (gl (a2 n2 86 92 c))))))))))))))))
(sn
(cd (a2 bz 1 48 c) (sl (a0 bC c)) tr)
(gr (gn (a7 cz 1 2 3 5 6 8 9 c) (gx (a8 cy 1 2 3 5 6 8 9 25 c) (gn (a8 bV 1 2 5 6 8 9 25 27 c) (gx (a7 cl 1 2 5 6 8 9 29 c) (gn (a7 cj 1 5 6 8 9 29 31 c) (gx (a6 cn 1 5 6 8 9 33 c) (gn (a6 cb 1 5 8 9 33 35 c) (gx (a5 bW 1 5 8 9 37 c) (gn (a5 cp 1 8 9 37 39 c) (gx (a4 b_ 1 8 9 41 c) (gn (a4 bQ 1 8 41 43 c) (gx (a3 bO 1 8 45 c) (gl (a3 bH 1 45 47 c)))))))))))))))))))))) hp
attribute [simp] n1 n2 n3 n4 n5 n6 n7 n8 n9 aQ a_ bc bt bD bC bz bH bO bQ b_ cp bW cb cn cj cl bV cy cz cK da cT dx
end F7
namespace F8
abbrev rs:List Nat:=[2]
def n1:N1:=fun _ R _ _ _ x0 h=>
(ba x0=false)/\bK x0 fun t1=>
ah Pg .gtr 3 true t1 (.sc (.int .i64 20000)) fun t2=>
R [t2] h
def n2:N1:=fun W R N E P x0 h=>
n1 W R N E P x0 h
theorem aM{x0:AV}{h:AH}{M:WK}{R:RK}(hp:n2 (fun id=>M id\/h.next<=id) (aJ Pg [.tmp 2] R) (aJ Pg [.tmp 2] R) (fun _ _ _=>False) (fun v h=>R (.cg v) h) x0 h):aE Pg 8 [x0] h M R:=
 fin (n:=6) (pl:=[]) (rs:=[.tmp 2]) (L:=rs) (fun c=>(a1 n2 0 c)) Try.mixed Try.func8 (fun c=>
(sq (a1 n2 0 c)
(sl (a1 n1 0 c)))) hp
attribute [simp] n1 n2
end F8
namespace GG
abbrev rs:List Nat:=[2,3,4]
def n1:N2:=fun W R _ _ P x2 x5 h=>
aC Pg W 10 [x5] h (fun t1 h2=>
dm t1 0 fun t3=>
dm t1 1 fun t4=>
dm t1 2 fun t5=>
aG (some 3) x2 t3 h2 W fun h6=>
R [x2,t4,t5] h6) P
def n2:N3:=fun W R _ _ _ x2 x6 x7 h=>
cR (some ([.int .i64 0,.int .i64 0,.slice none 0 0],.inl [(0,1),(1,1),(2,1)])) [] fun t7=>
aG (some 3) x2 t7 h W fun h8=>
R [x2,x6,x7] h8
def n3:N5:=fun W R N E P x2 x5 x6 x7 aL h=>
aH aL (
n2 W R N E P x2 x6 x7 h) (
n1 W R N E P x2 x5 h)
def n4:N4:=fun W R N E P x2 x5 x6 x7 h=>
ah Pg .neq 30 true x7 (.sc (.int .i64 0)) fun t9=>
n3 W R N E P x2 x5 x6 x7 t9 h
def n5:N2:=fun W R N E P x0 x2 h=>
aC Pg W 24 [x0] h (fun t10 nU=>
dm t10 0 fun t12=>
dm t10 1 fun t13=>
dm t10 2 fun t14=>
n4 W R N E P x2 t12 t13 t14 nU) P
def n6:N1:=fun W R N E P x0 h=>
bw (some [.int .i64 0,.int .i64 0,.slice none 0 0]) 3 27 h fun t15 sX=>
n5 W R N E P x0 t15 sX
theorem aM{x0:AV}{h:AH}{M:WK}{R:RK}(hp:n6 (fun id=>M id\/h.next<=id) (aJ Pg [.cell 2 27,.tmp 3,.tmp 4] R) (aJ Pg [.cell 2 27,.tmp 3,.tmp 4] R) (fun _ _ _=>False) (fun v h=>R (.cg v) h) x0 h):aE Pg 12 [x0] h M R:=
 fin (n:=24) (pl:=[]) (rs:=[.cell 2 27,.tmp 3,.tmp 4]) (L:=rs) (fun c=>(a1 n6 0 c)) Try.mixed Try.func12 (fun c=>
(sq (a1 n6 0 c)
(sq (a2 n5 0 2 c)
(sn
(sl (a2 n1 2 5 c))
(sq (a4 n4 2 5 6 7 c)
(cd (a5 n3 2 5 6 7 15 c) (sl (a3 n2 2 6 7 c)) tr)))))) hp
attribute [simp] n1 n2 n3 n4 n5 n6
end GG
end
section
open Go.Ab
namespace F6
abbrev rs:List Nat:=[2]
def n1:N3:=fun W R _ _ P x9 ax aL h=>
al (some true) (some 3) x9 h fun t1 _=>
al (some true) (some 3) ax h fun t3 _=>
al (some true) (some 3) aL h fun t5 _=>
aC Pg W 15 [t1,t3,t5] h (fun t7 h8=>
R [t7] h8) P
def n2:N6:=fun _ _ N _ _ x0 x8 x9 ax aL bI h=>
ah Pg .add 3 true bI (.sc (.int .i64 1)) fun t9=>
N [x0,x8,x9,ax,aL,t9] h
def n3:km:=fun _ _ N _ _ x0 x8 x9 ax aL bI dt c_ dK lz h=>
ah Pg .add 3 true lz (.sc (.int .i64 1)) fun t10=>
N [x0,x8,x9,ax,aL,bI,dt,c_,dK,t10] h
def n4:km:=fun W R N E P x0 x8 x9 ax aL bI dt c_ dK lz h=>
cR (some ([.string ⟨#[]⟩,.int .i64 0],.inl [(0,1),(1,1)])) [(0,(.sc (.string ⟨#[42]⟩))),(1,(.sc (.int .i64 75)))] fun t11=>
br (some (2,none)) dK lz fun t12=>
aG (some 2) t12 t11 h W fun HB=>
n3 W R N E P x0 x8 x9 ax aL bI dt c_ dK lz HB
def n5:N0:=fun _ R _ _ _ h=>
R [(.sc (.bool false))] h
def n6:qN:=fun W R N E P x0 x8 x9 ax aL bI dt c_ dK lz Y2 h=>
aH Y2 (
n5 W R N E P h) (
n4 W R N E P x0 x8 x9 ax aL bI dt c_ dK lz h)
def n7:km:=fun W R N E P x0 x8 x9 ax aL bI dt c_ dK lz h=>
ai (some 2) dt fun t14=>
al (some false) (some 1) t14 h fun t15 _=>
br (some (2,none)) t15 lz fun t17=>
al (some true) (some 2) t17 h fun t18 _=>
ai (some 2) c_ fun t20=>
al (some false) (some 1) t20 h fun t21 _=>
br (some (2,none)) t21 lz fun t23=>
al (some true) (some 2) t23 h fun t24 _=>
ah Pg .neq 44 false t18 t24 fun t26=>
n6 W R N E P x0 x8 x9 ax aL bI dt c_ dK lz t26 h
def n8:qN:=fun W R N E P x0 x8 x9 ax aL bI dt c_ dK lz Y3 h=>
aH Y3 (
n7 W R N E P x0 x8 x9 ax aL bI dt c_ dK lz h) (
E 4 [x0,x8,x9,ax,aL,bI] h)
def n9:km:=fun W R N E P x0 x8 x9 ax aL bI dt c_ dK lz h=>
ai (some 2) c_ fun t27=>
al (some false) (some 1) t27 h fun t28 _=>
(ba t28=false)/\bK t28 fun t30=>
ah Pg .lss 3 false lz t30 fun t31=>
n8 W R N E P x0 x8 x9 ax aL bI dt c_ dK lz t31 h
def fY:GK:=fun W R N E P N' vs h=>n9 W R N' (fun(i:Nat) (vs:List AV) (h:AH)=>if i=4 then n2 W R N E P (vs.getD 0 aa) (vs.getD 1 aa) (vs.getD 2 aa) (vs.getD 3 aa) (vs.getD 4 aa) (vs.getD 5 aa) h else if i=3 then n2 W R N E P (vs.getD 0 aa) (vs.getD 1 aa) (vs.getD 2 aa) (vs.getD 3 aa) (vs.getD 4 aa) (vs.getD 5 aa) h else E i vs h) P (vs.getD 0 aa) (vs.getD 1 aa) (vs.getD 2 aa) (vs.getD 3 aa) (vs.getD 4 aa) (vs.getD 5 aa) (vs.getD 6 aa) (vs.getD 7 aa) (vs.getD 8 aa) (vs.getD 9 aa) h
def aQ:km:=fun W R N E P x0 x8 x9 ax aL bI dt c_ dK lz h=>
cY (fY W R N E P) [x0,x8,x9,ax,aL,bI,dt,c_,dK,lz] h
def a_:N9:=fun W R N E P x0 x8 x9 ax aL bI dt c_ dK h=>
aQ W R N E P x0 x8 x9 ax aL bI dt c_ dK (.sc (.int .i64 0)) h
def bc:N0:=fun _ R _ _ _ h=>
R [(.sc (.bool false))] h
def bt:km:=fun W R N E P x0 x8 x9 ax aL bI dt c_ dK Y4 h=>
aH Y4 (
bc W R N E P h) (
a_ W R N E P x0 x8 x9 ax aL bI dt c_ dK h)
def bD:qN:=fun W R N E P x0 x8 x9 ax aL bI dt c_ dK Eh Y5 h=>
aV Eh (.sc (.bool true)) Y5 fun t32=>
bt W R N E P x0 x8 x9 ax aL bI dt c_ dK t32 h
def bC:km:=fun W R N E P x0 x8 x9 ax aL bI dt c_ dK Eh h=>
bF false Eh (
ai (some 2) c_ fun t33=>
al (some false) (some 1) t33 h fun t34 _=>
(ba t34=false)/\bK t34 fun t36=>
ah Pg .add 3 true t36 (.sc (.int .i64 1)) fun t37=>
br (some (2,none)) dK t37 fun t38=>
ai (some 1) t38 fun t39=>
al (some false) (some 1) t39 h fun t40 _=>
ah Pg .neq 3 true t40 (.sc (.int .i64 72)) fun t42=>
bD W R N E P x0 x8 x9 ax aL bI dt c_ dK Eh t42 h) (
bD W R N E P x0 x8 x9 ax aL bI dt c_ dK Eh aa h)
def bz:qN:=fun W R N E P x0 x8 x9 ax aL bI dt c_ dK zh Y6 h=>
aV zh (.sc (.bool true)) Y6 fun t43=>
bC W R N E P x0 x8 x9 ax aL bI dt c_ dK t43 h
def bH:km:=fun W R N E P x0 x8 x9 ax aL bI dt c_ dK zh h=>
bF false zh (
ai (some 2) c_ fun t44=>
al (some false) (some 1) t44 h fun t45 _=>
(ba t45=false)/\bK t45 fun t47=>
br (some (2,none)) dK t47 fun t48=>
ai (some 1) t48 fun t49=>
al (some false) (some 1) t49 h fun t50 _=>
ah Pg .neq 3 true t50 (.sc (.int .i64 71)) fun t52=>
bz W R N E P x0 x8 x9 ax aL bI dt c_ dK zh t52 h) (
bz W R N E P x0 x8 x9 ax aL bI dt c_ dK zh aa h)
def bO:qN:=fun W R N E P x0 x8 x9 ax aL bI dt c_ dK Ei Za h=>
aV Ei (.sc (.bool true)) Za fun t53=>
bH W R N E P x0 x8 x9 ax aL bI dt c_ dK t53 h
def bQ:km:=fun W R N E P x0 x8 x9 ax aL bI dt c_ dK Ei h=>
bF false Ei (
ai (some 5) dt fun t54=>
al (some false) (some 1) t54 h fun t55 _=>
ai (some 5) c_ fun t57=>
al (some false) (some 1) t57 h fun t58 _=>
ah Pg .neq 3 false t55 t58 fun t60=>
bO W R N E P x0 x8 x9 ax aL bI dt c_ dK Ei t60 h) (
bO W R N E P x0 x8 x9 ax aL bI dt c_ dK Ei aa h)
def b_:qN:=fun W R N E P x0 x8 x9 ax aL bI dt c_ dK Ej Mc h=>
aV Ej (.sc (.bool true)) Mc fun t61=>
bQ W R N E P x0 x8 x9 ax aL bI dt c_ dK t61 h
def cp:km:=fun W R N E P x0 x8 x9 ax aL bI dt c_ dK Ej h=>
bF false Ej (
ai (some 4) dt fun t62=>
al (some false) (some 1) t62 h fun t63 _=>
ai (some 4) c_ fun t65=>
al (some false) (some 1) t65 h fun t66 _=>
ah Pg .neq 3 false t63 t66 fun t68=>
b_ W R N E P x0 x8 x9 ax aL bI dt c_ dK Ej t68 h) (
b_ W R N E P x0 x8 x9 ax aL bI dt c_ dK Ej aa h)
def bW:qN:=fun W R N E P x0 x8 x9 ax aL bI dt c_ dK Ek Zd h=>
aV Ek (.sc (.bool true)) Zd fun t69=>
cp W R N E P x0 x8 x9 ax aL bI dt c_ dK t69 h
def cb:km:=fun W R N E P x0 x8 x9 ax aL bI dt c_ dK Ek h=>
bF false Ek (
ai (some 3) dt fun t70=>
al (some false) (some 1) t70 h fun t71 _=>
ai (some 3) c_ fun t73=>
al (some false) (some 1) t73 h fun t74 _=>
ah Pg .neq 3 false t71 t74 fun t76=>
bW W R N E P x0 x8 x9 ax aL bI dt c_ dK Ek t76 h) (
bW W R N E P x0 x8 x9 ax aL bI dt c_ dK Ek aa h)
def cn:qN:=fun W R N E P x0 x8 x9 ax aL bI dt c_ dK zi Ze h=>
aV zi (.sc (.bool true)) Ze fun t77=>
cb W R N E P x0 x8 x9 ax aL bI dt c_ dK t77 h
def cj:km:=fun W R N E P x0 x8 x9 ax aL bI dt c_ dK zi h=>
bF false zi (
ai (some 1) dt fun t78=>
al (some false) (some 1) t78 h fun t79 _=>
ai (some 1) c_ fun t81=>
al (some false) (some 1) t81 h fun t82 _=>
ah Pg .neq 9 false t79 t82 fun t84=>
cn W R N E P x0 x8 x9 ax aL bI dt c_ dK zi t84 h) (
cn W R N E P x0 x8 x9 ax aL bI dt c_ dK zi aa h)
def cl:N9:=fun W R N E P x0 x8 x9 ax aL bI dt c_ dK h=>
ai (some 0) dt fun t85=>
al (some false) (some 1) t85 h fun t86 _=>
ai (some 0) c_ fun t88=>
al (some false) (some 1) t88 h fun t89 _=>
ah Pg .neq 9 false t86 t89 fun t91=>
cj W R N E P x0 x8 x9 ax aL bI dt c_ dK t91 h
def bV:N8:=fun W R N E P x0 x8 x9 ax aL bI dt c_ h=>
ai (some 2) dt fun t92=>
al (some false) (some 1) t92 h fun t93 _=>
ai (some 2) c_ fun t95=>
al (some false) (some 1) t95 h fun t96 _=>
(ba t96=false)/\bK t96 fun t98=>
ah Pg .add 3 true t98 (.sc (.int .i64 2)) fun t99=>
oE (some 2) t93 none (some t99) h fun t100=>
cl W R N E P x0 x8 x9 ax aL bI dt c_ t100 h
def cy:N6:=fun W R N E P x0 x8 x9 ax aL bI h=>
∃Hd:Nat->Nat,(∀i∈[7],h.obj (Hd i)≠none)/\(
br (some (6,none)) x8 bI fun t101=>
al (some true) (some 6) t101 h fun t102 _=>
br (some (6,none)) x0 bI fun t104=>
al (some true) (some 6) t104 h fun t105 i106=>
(i106=Hd 7)/\(
(
bw (some [.string ⟨#[]⟩,.string ⟨#[]⟩,.slice none 0 0,.int .i64 0,.int .i64 0,.int .i64 0]) 6 42 h fun t107 uR=>
bw (some [.string ⟨#[]⟩,.string ⟨#[]⟩,.slice none 0 0,.int .i64 0,.int .i64 0,.int .i64 0]) 6 42 uR fun t109 FO=>
aG (some 6) t107 t102 FO (h_ W Hd [7]) fun FN=>
aG (some 6) t109 t105 FN W fun FM=>
bV W R N E P x0 x8 x9 ax aL bI t107 t109 FM)/\(
bw (some [.string ⟨#[]⟩,.string ⟨#[]⟩,.slice none 0 0,.int .i64 0,.int .i64 0,.int .i64 0]) 6 42 h fun t113 FL=>
bw (some [.string ⟨#[]⟩,.string ⟨#[]⟩,.slice none 0 0,.int .i64 0,.int .i64 0,.int .i64 0]) 6 42 FL fun t115 NJ=>
aG (some 6) t115 t102 NJ (h_ W Hd [7]) fun abM=>
aG (some 6) t113 t105 abM W fun abL=>
bV W R N E P x0 x8 x9 ax aL bI t115 t113 abL)/\True))
def cz:N7:=fun W R N E P x0 x8 x9 ax aL bI mV h=>
aH mV (
cy W R N E P x0 x8 x9 ax aL bI h) (
E 2 [x9,ax,aL] h)
def cK:N6:=fun W R N E P x0 x8 x9 ax aL bI h=>
(ba x0=false)/\bK x0 fun t119=>
ah Pg .lss 3 false bI t119 fun t120=>
cz W R N E P x0 x8 x9 ax aL bI t120 h
def cB:GK:=fun W R N E P N' vs h=>cK W R N' (fun(i:Nat) (vs:List AV) (h:AH)=>if i=2 then n1 W R N E P (vs.getD 0 aa) (vs.getD 1 aa) (vs.getD 2 aa) h else E i vs h) P (vs.getD 0 aa) (vs.getD 1 aa) (vs.getD 2 aa) (vs.getD 3 aa) (vs.getD 4 aa) (vs.getD 5 aa) h
def da:N6:=fun W R N E P x0 x8 x9 ax aL bI h=>
cY (cB W R N E P) [x0,x8,x9,ax,aL,bI] h
def cT:N5:=fun W R N E P x0 x8 x9 ax aL h=>
da W R N E P x0 x8 x9 ax aL (.sc (.int .i64 0)) h
def dx:N0:=fun _ R _ _ _ h=>
R [(.sc (.bool false))] h
def dW:N6:=fun W R N E P x0 x8 x9 ax aL Mh h=>
aH Mh (
dx W R N E P h) (
cT W R N E P x0 x8 x9 ax aL h)
def dT:N7:=fun W R N E P x0 x8 x9 ax aL kK Mi h=>
aV kK (.sc (.bool true)) Mi fun t121=>
dW W R N E P x0 x8 x9 ax aL t121 h
def dV:N7:=fun W R N E P x0 x7 x8 x9 ax aL kK h=>
bF false kK (
(ba x0=false)/\bK x0 fun t122=>
ah Pg .add 3 true t122 (.sc (.int .i64 1)) fun t123=>
br (some (6,none)) x7 t123 fun t124=>
ai (some 3) t124 fun t125=>
al (some false) (some 1) t125 h fun t126 _=>
ah Pg .neq 3 true t126 (.sc (.int .i64 74)) fun t128=>
dT W R N E P x0 x8 x9 ax aL kK t128 h) (
dT W R N E P x0 x8 x9 ax aL kK aa h)
def ed:N8:=fun W R N E P x0 x7 x8 x9 ax aL Eo Zq h=>
aV Eo (.sc (.bool true)) Zq fun t129=>
dV W R N E P x0 x7 x8 x9 ax aL t129 h
def eJ:N7:=fun W R N E P x0 x7 x8 x9 ax aL Eo h=>
bF false Eo (
(ba x0=false)/\bK x0 fun t130=>
br (some (6,none)) x7 t130 fun t131=>
ai (some 3) t131 fun t132=>
al (some false) (some 1) t132 h fun t133 _=>
ah Pg .neq 3 true t133 (.sc (.int .i64 73)) fun t135=>
ed W R N E P x0 x7 x8 x9 ax aL Eo t135 h) (
ed W R N E P x0 x7 x8 x9 ax aL Eo aa h)
def dF:N8:=fun W R N E P x0 x7 x8 x9 ax aL gM uu h=>
aV gM (.sc (.bool true)) uu fun t136=>
eJ W R N E P x0 x7 x8 x9 ax aL t136 h
def d_:N7:=fun W R N E P x0 x7 x8 x9 ax aL gM h=>
bF false gM (
al (some true) (some 3) ax h fun t137 _=>
al (some true) (some 3) aL h fun t139 _=>
aC Pg W 11 [t137,t139] h (fun t141 abA=>
im .not t141 fun t143=>
dF W R N E P x0 x7 x8 x9 ax aL gM t143 abA) P) (
dF W R N E P x0 x7 x8 x9 ax aL gM aa h)
def dL:N8:=fun W R N E P x0 x7 x8 x9 ax aL v7 ia h=>
aV v7 (.sc (.bool true)) ia fun t144=>
d_ W R N E P x0 x7 x8 x9 ax aL t144 h
def eC:N7:=fun W R N E P x0 x7 x8 x9 ax aL v7 h=>
bF false v7 (
al (some true) (some 3) x9 h fun t145 _=>
al (some true) (some 3) aL h fun t147 _=>
aC Pg W 11 [t145,t147] h (fun t149 NF=>
im .not t149 fun t151=>
dL W R N E P x0 x7 x8 x9 ax aL v7 t151 NF) P) (
dL W R N E P x0 x7 x8 x9 ax aL v7 aa h)
def eu:N8:=fun W R N E P x0 x7 x8 x9 ax aL rp D_ h=>
aV rp (.sc (.bool true)) D_ fun t152=>
eC W R N E P x0 x7 x8 x9 ax aL t152 h
def dO:N9:=fun W R N E P x0 x7 x8 x9 ax aY aL cV rp h=>
bF false rp (
ah Pg .neq 3 false aY cV fun t153=>
eu W R N E P x0 x7 x8 x9 ax aL rp t153 h) (
eu W R N E P x0 x7 x8 x9 ax aL rp aa h)
def e_:N9:=fun W R N E P x0 x7 x8 x9 aq ax aY aL cV h=>
ah Pg .neq 3 false aq cV fun t154=>
dO W R N E P x0 x7 x8 x9 ax aY aL cV t154 h
def fg:N7:=fun W R N E P x0 x7 x8 x9 aq ax aY h=>
aC Pg W 9 [x0] h (fun t155 NE=>
dm t155 0 fun t157=>
dm t155 1 fun t158=>
dm t155 2 fun t159=>
bw (some [.int .i64 0,.int .i64 0,.slice none 0 0]) 3 27 NE fun t160 abv=>
aG (some 3) t160 t157 abv W fun abu=>
e_ W R N E P x0 x7 x8 x9 aq ax aY t160 t159 abu) P
def hG:N5:=fun W R N E P x0 x7 x8 x9 aq h=>
aC Pg W 10 [x8] h (fun t163 abt=>
dm t163 0 fun t165=>
dm t163 1 fun t166=>
dm t163 2 fun t167=>
bw (some [.int .i64 0,.int .i64 0,.slice none 0 0]) 3 27 abt fun t168 abp=>
aG (some 3) t168 t165 abp W fun abo=>
fg W R N E P x0 x7 x8 x9 aq t168 t167 abo) P
def gg:N3:=fun W R N E P x0 x7 x8 h=>
aC Pg W 10 [x8] h (fun t171 abn=>
dm t171 0 fun t173=>
dm t171 1 fun t174=>
dm t171 2 fun t175=>
bw (some [.int .i64 0,.int .i64 0,.slice none 0 0]) 3 27 abn fun t176 FJ=>
aG (some 3) t176 t173 FJ W fun abl=>
hG W R N E P x0 x7 x8 t176 t175 abl) P
def fq:N2:=fun W R N E P x0 x7 h=>
(ba x0=false)/\bK x0 fun t179=>
oE (some 6) x7 none (some t179) h fun t180=>
gg W R N E P x0 x7 t180 h
def iu:N2:=fun W R N E P x0 x3 h=>
cR (some ([.string ⟨#[]⟩,.string ⟨#[]⟩,.slice none 0 0,.int .i64 0,.int .i64 0,.int .i64 0],.inl [(0,1),(1,1),(2,1),(3,1),(4,1),(5,1)])) [(3,(.sc (.int .i64 73)))] fun t181=>
cR (some ([.string ⟨#[]⟩,.string ⟨#[]⟩,.slice none 0 0,.int .i64 0,.int .i64 0,.int .i64 0],.inl [(0,1),(1,1),(2,1),(3,1),(4,1),(5,1)])) [(3,(.sc (.int .i64 74)))] fun t182=>
dX (some (6,42,[.string ⟨#[]⟩,.string ⟨#[]⟩,.slice none 0 0,.int .i64 0,.int .i64 0,.int .i64 0,.string ⟨#[]⟩,.string ⟨#[]⟩,.slice none 0 0,.int .i64 0,.int .i64 0,.int .i64 0])) 2 [(0,t181),(1,t182)] h fun t183 NA=>
fu (some (6,80,42)) x3 t183 NA W fun t185 abh=>
fq W R N E P x0 t185 abh
def jD:N3:=fun _ _ N _ _ x0 x3 x4 h=>
ah Pg .add 3 true x4 (.sc (.int .i64 1)) fun t187=>
N [x0,x3,t187] h
def jC:N4:=fun W R N E P x0 x3 x4 x5 h=>
al (some true) (some 6) x5 h fun t188 _=>
dX (some (6,42,[.string ⟨#[]⟩,.string ⟨#[]⟩,.slice none 0 0,.int .i64 0,.int .i64 0,.int .i64 0])) 1 [(0,t188)] h fun t190 Nz=>
fu (some (6,80,42)) x3 t190 Nz W fun t192 Ny=>
jD W R N E P x0 t192 x4 Ny
def ir:N5:=fun W R N E P x0 x3 x4 x5 x6 h=>
ai (some 2) x5 fun t194=>
al (some false) (some 1) t194 h fun t195 _=>
(ba t195=false)/\bK t195 fun t197=>
oE (some 2) x6 none (some t197) h fun t198=>
ai (some 2) x5 fun t199=>
aG (some 1) t199 t198 h W fun Nx=>
jC W R N E P x0 x3 x4 x5 Nx
def kO:N4:=fun W R N E P x0 x3 x4 x5 h=>
dX (some (2,44,[])) 0 [] h fun t201 Vk=>
ai (some 2) x5 fun t203=>
al (some false) (some 1) t203 Vk fun t204 _=>
fu (some (2,24,44)) t201 t204 Vk W fun t206 abc=>
cR (some ([.string ⟨#[]⟩,.int .i64 0],.inl [(0,1),(1,1)])) [(1,(.sc (.int .i64 71)))] fun t208=>
cR (some ([.string ⟨#[]⟩,.int .i64 0],.inl [(0,1),(1,1)])) [(1,(.sc (.int .i64 72)))] fun t209=>
dX (some (2,44,[.string ⟨#[]⟩,.int .i64 0,.string ⟨#[]⟩,.int .i64 0])) 2 [(0,t208),(1,t209)] abc fun t210 abb=>
fu (some (2,24,44)) t206 t210 abb W fun t212 Nw=>
ir W R N E P x0 x3 x4 x5 t212 Nw
def mQ:N3:=fun W R N E P x0 x3 x4 h=>
br (some (6,none)) x0 x4 fun t214=>
al (some true) (some 6) t214 h fun t215 _=>
bw (some [.string ⟨#[]⟩,.string ⟨#[]⟩,.slice none 0 0,.int .i64 0,.int .i64 0,.int .i64 0]) 6 42 h fun t217 aa_=>
aG (some 6) t217 t215 aa_ W fun aa9=>
kO W R N E P x0 x3 x4 t217 aa9
def mq:N4:=fun W R N E P x0 x3 x4 Jv h=>
aH Jv (
mQ W R N E P x0 x3 x4 h) (
E 0 [x0,x3] h)
def sF:N3:=fun W R N E P x0 x3 x4 h=>
(ba x0=false)/\bK x0 fun t220=>
ah Pg .lss 3 false x4 t220 fun t221=>
mq W R N E P x0 x3 x4 t221 h
def kV:GK:=fun W R N E P N' vs h=>sF W R N' (fun(i:Nat) (vs:List AV) (h:AH)=>if i=0 then iu W R N E P (vs.getD 0 aa) (vs.getD 1 aa) h else E i vs h) P (vs.getD 0 aa) (vs.getD 1 aa) (vs.getD 2 aa) h
def qz:N3:=fun W R N E P x0 x3 x4 h=>
cY (kV W R N E P) [x0,x3,x4] h
def sE:N2:=fun W R N E P x0 x3 h=>
qz W R N E P x0 x3 (.sc (.int .i64 0)) h
def pZ:N1:=fun W R N E P x0 h=>
(ba x0=false)/\bK x0 fun t222=>
ah Pg .add 3 true t222 (.sc (.int .i64 2)) fun t223=>
zc (some (6,80,42,[.string ⟨#[]⟩,.string ⟨#[]⟩,.slice none 0 0,.int .i64 0,.int .i64 0,.int .i64 0])) (.sc (.int .i64 0)) t223 h fun t224 aa6=>
sE W R N E P x0 t224 aa6
def C8:N0:=fun _ R _ _ _ h=>
R [(.sc (.bool true))] h
def A3:N2:=fun W R N E P x0 Aw h=>
aH Aw (
C8 W R N E P h) (
pZ W R N E P x0 h)
def vz:N1:=fun W R N E P x0 h=>
aC Pg W 8 [x0] h (fun t226 aa5=>
A3 W R N E P x0 t226 aa5) P
def C7:N0:=fun _ R _ _ _ h=>
R [(.sc (.bool false))] h
def A0:N2:=fun W R N E P x0 je h=>
aH je (
C7 W R N E P h) (
vz W R N E P x0 h)
def tQ:N1:=fun W R N E P x0 h=>
aC Pg W 7 [] h (fun t228 aa4=>
im .not t228 fun t230=>
A0 W R N E P x0 t230 aa4) P
def yv:N1:=fun W R N E P x0 h=>
tQ W R N E P x0 h
theorem aM{x0:AV}{h:AH}{M:WK}{R:RK}(hp:yv (fun id=>M id\/h.next<=id) (aJ Pg [.tmp 2] R) (aJ Pg [.tmp 2] R) (fun _ _ _=>False) (fun v h=>R (.cg v) h) x0 h):aE Pg 6 [x0] h M R:=
 fin (n:=226) (pl:=[(18,⟨[(none,(fr 0 4)),(some (3,false),(fr 4 3)),(none,(fr 7 2)),(some (8,false),(fr 9 4)),(none,(fr 13 2)),(some (14,false),(fr 15 4)),(none,(fr 19 2)),(some (20,false),(fr 21 7)),(none,(fr 28 2)),(some (29,false),(fr 30 8)),(none,(fr 38 1))],false,[],[]⟩),(23,⟨[(none,[(0,false),(1,false),(2,false),(3,false),(4,false),(5,false),(6,false),(7,true)])],true,[.mk (fr 8 4) [],.mk [(9,false),(8,false),(10,false),(11,false)] []],[]⟩),(25,⟨[(none,(fr 0 6)),(some (5,false),(fr 6 5)),(none,(fr 11 2)),(some (12,false),(fr 13 5)),(none,(fr 18 2)),(some (19,false),(fr 20 5)),(none,(fr 25 2)),(some (26,false),(fr 27 5)),(none,(fr 32 2)),(some (33,false),(fr 34 8)),(none,(fr 42 2)),(some (43,false),(fr 44 9)),(none,(fr 53 1))],false,[],[]⟩),(30,⟨[(none,(fr 0 11))],false,[],[]⟩)]) (rs:=[.tmp 2]) (L:=rs) (fun c=>(a1 yv 0 c)) Try.mixed Try.func6 (fun c=>
(sq (a1 yv 0 c)
(sn
(sn
(sq (a1 pZ 0 c)
(sn
(sq (a2 iu 0 3 c)
(sq (a2 fq 0 7 c)
(sq (a3 gg 0 7 8 c)
(sq (a5 hG 0 7 8 9 11 c)
(sq (a7 fg 0 7 8 9 11 12 14 c)
(sn
(sn
(sl (a3 n1 9 12 15 c))
(sq (a5 cT 0 8 9 12 15 c)
(bk 2 (lp [0,8,9,12,15,18] rs [(2,[9,12,15])] (a6 da 0 8 9 12 15 18 c) cB (fun i vs h=>if i=2 then n1 c.W c.R c.N c.E c.P (vs.getD 0 aa) (vs.getD 1 aa) (vs.getD 2 aa) h else c.E i vs h) (.b (.t .o)) fun c=>
(sn
(sn
(sm (a6 n2 0 8 9 12 15 18 c))
(bk 3 (sn
(sq (a8 bV 0 8 9 12 15 18 19 20 c)
(sn
(sq (a9 a_ 0 8 9 12 15 18 19 20 21 c)
(bk 4 (lp [0,8,9,12,15,18,19,20,21,22] rs [(4,[0,8,9,12,15,18]),(3,[0,8,9,12,15,18]),(2,[9,12,15])] (kE aQ 0 8 9 12 15 18 19 20 21 22 c) fY (fun i vs h=>if i=4 then n2 c.W c.R c.N c.E c.P (vs.getD 0 aa) (vs.getD 1 aa) (vs.getD 2 aa) (vs.getD 3 aa) (vs.getD 4 aa) (vs.getD 5 aa) h else if i=3 then n2 c.W c.R c.N c.E c.P (vs.getD 0 aa) (vs.getD 1 aa) (vs.getD 2 aa) (vs.getD 3 aa) (vs.getD 4 aa) (vs.getD 5 aa) h else c.E i vs h) (.b (.b (.t .o))) fun c=>
(sn
(sn
(sm (kE n3 0 8 9 12 15 18 19 20 21 22 c))
(bk 5 (sn
(sm (kE n4 0 8 9 12 15 18 19 20 21 22 c))
(sq (kE n7 0 8 9 12 15 18 19 20 21 22 c)
(cd (rW n6 0 8 9 12 15 18 19 20 21 22 217 c) (sl (a0 n5 c)) tr)))))
(sq (kE n9 0 8 9 12 15 18 19 20 21 22 c)
(cd (rW n8 0 8 9 12 15 18 19 20 21 22 204 c) tr tr))))))
(sn
(cd (kE bt 0 8 9 12 15 18 19 20 21 199 c) (sl (a0 bc c)) tr)
(gr (gn (a9 cl 0 8 9 12 15 18 19 20 21 c) (gx (kE cj 0 8 9 12 15 18 19 20 21 151 c) (gn (rW cn 0 8 9 12 15 18 19 20 21 151 156 c) (gx (kE cb 0 8 9 12 15 18 19 20 21 158 c) (gn (rW bW 0 8 9 12 15 18 19 20 21 158 163 c) (gx (kE cp 0 8 9 12 15 18 19 20 21 165 c) (gn (rW b_ 0 8 9 12 15 18 19 20 21 165 170 c) (gx (kE bQ 0 8 9 12 15 18 19 20 21 172 c) (gn (rW bO 0 8 9 12 15 18 19 20 21 172 177 c) (gx (kE bH 0 8 9 12 15 18 19 20 21 179 c) (gn (rW bz 0 8 9 12 15 18 19 20 21 179 187 c) (gx (kE bC 0 8 9 12 15 18 19 20 21 189 c) (gl (rW bD 0 8 9 12 15 18 19 20 21 189 198 c))))))))))))))))))
(sm (a6 cy 0 8 9 12 15 18 c)))))
(sq (a6 cK 0 8 9 12 15 18 c)
(cd (a7 cz 0 8 9 12 15 18 128 c) tr tr)))))))
(sn
(cd (a6 dW 0 8 9 12 15 124 c) (sl (a0 dx c)) tr)
(gr (gn (a9 e_ 0 7 8 9 11 12 14 15 17 c) (gx (a9 dO 0 7 8 9 12 14 15 17 89 c) (gn (a8 eu 0 7 8 9 12 15 89 92 c) (gx (a7 eC 0 7 8 9 12 15 94 c) (gn (a8 dL 0 7 8 9 12 15 94 98 c) (gx (a7 d_ 0 7 8 9 12 15 100 c) (gn (a8 dF 0 7 8 9 12 15 100 104 c) (gx (a7 eJ 0 7 8 9 12 15 106 c) (gn (a8 ed 0 7 8 9 12 15 106 113 c) (gx (a7 dV 0 7 8 9 12 15 115 c) (gl (a7 dT 0 8 9 12 15 115 123 c))))))))))))))))))))
(sq (a2 sE 0 3 c)
(bk 0 (lp [0,3,4] rs [(0,[0,3])] (a3 qz 0 3 4 c) kV (fun i vs h=>if i=0 then iu c.W c.R c.N c.E c.P (vs.getD 0 aa) (vs.getD 1 aa) h else c.E i vs h) (.b (.t .o)) fun c=>
(sn
(sn
(sm (a3 jD 0 3 4 c))
(bk 1 (sq (a3 mQ 0 3 4 c)
(sq (a4 kO 0 3 4 5 c)
(sq (a5 ir 0 3 4 5 6 c)
(sm (a4 jC 0 3 4 5 c)))))))
(sq (a3 sF 0 3 4 c)
(cd (a4 mq 0 3 4 34 c) tr tr))))))))
(sq (a1 vz 0 c)
(cd (a2 A3 0 26 c) (sl (a0 C8 c)) tr)))
(sq (a1 tQ 0 c)
(cd (a2 A0 0 24 c) (sl (a0 C7 c)) tr))))) hp
attribute [simp] n1 n2 n3 n4 n5 n6 n7 n8 n9 a_ bc bt bD bC bz bH bO bQ b_ cp bW cb cn cj cl bV cy cz cK cT dx dW dT dV ed eJ dF d_ dL eC eu dO e_ fg hG gg fq iu jD jC ir kO mQ mq sF sE pZ C8 A3 vz C7 A0 tQ yv
end F6
namespace eE
abbrev rs:List Nat:=[6]
def n1:N1:=fun _ R _ _ _ x6 h=>
R [x6] h
def n2:N2:=fun W R N E P zk En h=>
aV zk En (.sc (.bool false)) fun t1=>
n1 W R N E P t1 h
def n3:N3:=fun W R N E P x3 x5 zk h=>
bF true zk (
ai (some 2) x3 fun t2=>
al (some false) (some 1) t2 h fun t3 _=>
(ba t3=false)/\bK t3 fun t5=>
ai (some 2) x5 fun t6=>
al (some false) (some 1) t6 h fun t7 _=>
(ba t7=false)/\bK t7 fun t9=>
ah Pg .add 3 true t9 (.sc (.int .i64 5)) fun t10=>
ah Pg .eql 3 false t5 t10 fun t11=>
n2 W R N E P zk t11 h) (
n2 W R N E P zk aa h)
def n4:N3:=fun W R N E P x3 x4 x5 h=>
al (some true) (some 3) x4 h fun t12 _=>
al (some true) (some 3) x5 h fun t14 _=>
aC Pg W 11 [t12,t14] h (fun t16 qK=>
n3 W R N E P x3 x5 t16 qK) P
def n5:N4:=fun _ _ N _ _ x3 x4 x5 bg h=>
ah Pg .add 3 true bg (.sc (.int .i64 1)) fun t18=>
N [x3,x4,x5,t18] h
def n6:N4:=fun W R N E P x3 x4 x5 bg h=>
ai (some 2) x3 fun t19=>
al (some false) (some 1) t19 h fun t20 _=>
cR (some ([.int .i64 0,.string ⟨#[]⟩,.slice none 0 0,.int .i64 0,.bool false,.int .u64 0,.int .u64 0],.inl [(0,1),(1,1),(2,1),(3,1),(4,1),(5,1),(6,1)])) [(0,(.sc (.int .i64 9)))] fun t22=>
dX (some (7,49,[.int .i64 0,.string ⟨#[]⟩,.slice none 0 0,.int .i64 0,.bool false,.int .u64 0,.int .u64 0])) 1 [(0,t22)] h fun t23 sV=>
fu (some (7,80,49)) t20 t23 sV W fun t25 mS=>
ai (some 2) x3 fun t27=>
aG (some 1) t27 t25 mS W fun qI=>
n5 W R N E P x3 x4 x5 bg qI
def n7:N5:=fun W R N E P x3 x4 x5 bg rp h=>
aH rp (
n6 W R N E P x3 x4 x5 bg h) (
E 10 [x3,x4,x5] h)
def n8:N4:=fun W R N E P x3 x4 x5 bg h=>
ah Pg .lss 3 true bg (.sc (.int .i64 5)) fun t29=>
n7 W R N E P x3 x4 x5 bg t29 h
def cB:GK:=fun W R N E P N' vs h=>n8 W R N' (fun(i:Nat) (vs:List AV) (h:AH)=>if i=10 then n4 W R N E P (vs.getD 0 aa) (vs.getD 1 aa) (vs.getD 2 aa) h else E i vs h) P (vs.getD 0 aa) (vs.getD 1 aa) (vs.getD 2 aa) (vs.getD 3 aa) h
def n9:N4:=fun W R N E P x3 x4 x5 bg h=>
cY (cB W R N E P) [x3,x4,x5,bg] h
def aQ:N3:=fun W R N E P x3 x4 x5 h=>
n9 W R N E P x3 x4 x5 (.sc (.int .i64 0)) h
def a_:N4:=fun _ _ N _ _ x3 x4 x5 aq h=>
ah Pg .add 3 true aq (.sc (.int .i64 1)) fun t30=>
N [x3,x4,x5,t30] h
def bc:N5:=fun _ _ N _ _ x3 x4 x5 aq ax h=>
ah Pg .add 3 true ax (.sc (.int .i64 1)) fun t31=>
N [x3,x4,x5,aq,t31] h
def bt:N0:=fun _ R _ _ _ h=>
R [(.sc (.bool false))] h
def bD:N6:=fun W R N E P x3 x4 x5 aq ax v8 h=>
aH v8 (
bt W R N E P h) (
bc W R N E P x3 x4 x5 aq ax h)
def bC:N5:=fun W R N E P x3 x4 x5 aq ax h=>
ai (some 2) x3 fun t32=>
al (some false) (some 1) t32 h fun t33 _=>
br (some (7,none)) t33 aq fun t35=>
ai (some 2) t35 fun t36=>
al (some false) (some 1) t36 h fun t37 _=>
br (some (1,none)) t37 ax fun t39=>
al (some false) (some 1) t39 h fun t40 _=>
ah Pg .sub 3 true (.sc (.int .i64 (-1))) aq fun t42=>
ah Pg .neq 3 false t40 t42 fun t43=>
bD W R N E P x3 x4 x5 aq ax t43 h
def bz:N6:=fun W R N E P x3 x4 x5 aq ax tH h=>
aH tH (
bC W R N E P x3 x4 x5 aq ax h) (
E 8 [x3,x4,x5,aq] h)
def bH:N5:=fun W R N E P x3 x4 x5 aq ax h=>
ai (some 2) x3 fun t44=>
al (some false) (some 1) t44 h fun t45 _=>
br (some (7,none)) t45 aq fun t47=>
ai (some 2) t47 fun t48=>
al (some false) (some 1) t48 h fun t49 _=>
(ba t49=false)/\bK t49 fun t51=>
ah Pg .lss 3 false ax t51 fun t52=>
bz W R N E P x3 x4 x5 aq ax t52 h
def kV:GK:=fun W R N E P N' vs h=>bH W R N' (fun(i:Nat) (vs:List AV) (h:AH)=>if i=8 then a_ W R N E P (vs.getD 0 aa) (vs.getD 1 aa) (vs.getD 2 aa) (vs.getD 3 aa) h else if i=7 then a_ W R N E P (vs.getD 0 aa) (vs.getD 1 aa) (vs.getD 2 aa) (vs.getD 3 aa) h else E i vs h) P (vs.getD 0 aa) (vs.getD 1 aa) (vs.getD 2 aa) (vs.getD 3 aa) (vs.getD 4 aa) h
def bO:N5:=fun W R N E P x3 x4 x5 aq ax h=>
cY (kV W R N E P) [x3,x4,x5,aq,ax] h
def bQ:N4:=fun W R N E P x3 x4 x5 aq h=>
bO W R N E P x3 x4 x5 aq (.sc (.int .i64 0)) h
def b_:N5:=fun W R N E P x3 x4 x5 aq wa h=>
aH wa (
bQ W R N E P x3 x4 x5 aq h) (
E 6 [x3,x4,x5] h)
def cp:N4:=fun W R N E P x3 x4 x5 aq h=>
ai (some 2) x3 fun t53=>
al (some false) (some 1) t53 h fun t54 _=>
(ba t54=false)/\bK t54 fun t56=>
ah Pg .lss 3 false aq t56 fun t57=>
b_ W R N E P x3 x4 x5 aq t57 h
def fY:GK:=fun W R N E P N' vs h=>cp W R N' (fun(i:Nat) (vs:List AV) (h:AH)=>if i=6 then aQ W R N E P (vs.getD 0 aa) (vs.getD 1 aa) (vs.getD 2 aa) h else E i vs h) P (vs.getD 0 aa) (vs.getD 1 aa) (vs.getD 2 aa) (vs.getD 3 aa) h
def bW:N4:=fun W R N E P x3 x4 x5 aq h=>
cY (fY W R N E P) [x3,x4,x5,aq] h
def cb:N3:=fun W R N E P x3 x4 x5 h=>
bW W R N E P x3 x4 x5 (.sc (.int .i64 0)) h
def cn:N4:=fun _ _ N _ _ x3 x4 x5 x7 h=>
ah Pg .add 3 true x7 (.sc (.int .i64 1)) fun t58=>
N [x3,x4,x5,t58] h
def cj:N0:=fun _ R _ _ _ h=>
R [(.sc (.bool false))] h
def cl:N5:=fun W R N E P x3 x4 x5 x7 we h=>
aH we (
cj W R N E P h) (
cn W R N E P x3 x4 x5 x7 h)
def bV:N5:=fun W R N E P x3 x4 x5 x7 x8 h=>
(ba x8=false)/\bK x8 fun t59=>
ai (some 2) x5 fun t60=>
al (some false) (some 1) t60 h fun t61 _=>
br (some (7,none)) t61 x7 fun t63=>
ai (some 2) t63 fun t64=>
al (some false) (some 1) t64 h fun t65 _=>
(ba t65=false)/\bK t65 fun t67=>
ah Pg .add 3 true t67 (.sc (.int .i64 5)) fun t68=>
ah Pg .neq 3 false t59 t68 fun t69=>
cl W R N E P x3 x4 x5 x7 t69 h
def cy:N6:=fun _ _ N _ _ x3 x4 x5 x7 x8 ap h=>
ah Pg .add 3 true ap (.sc (.int .i64 1)) fun t70=>
N [x3,x4,x5,x7,x8,t70] h
def cz:N6:=fun W R N E P x3 x4 x5 x7 x8 ap h=>
ah Pg .sub 3 true (.sc (.int .i64 (-5000))) x7 fun t71=>
dX (some (1,3,[.int .i64 0])) 1 [(0,t71)] h fun t72 h73=>
fu (some (1,8,3)) x8 t72 h73 W fun t74 FC=>
cy W R N E P x3 x4 x5 x7 t74 ap FC
def cK:N7:=fun W R N E P x3 x4 x5 x7 x8 ap wh h=>
aH wh (
cz W R N E P x3 x4 x5 x7 x8 ap h) (
E 4 [x3,x4,x5,x7,x8] h)
def da:N6:=fun W R N E P x3 x4 x5 x7 x8 ap h=>
ah Pg .lss 3 true ap (.sc (.int .i64 5)) fun t76=>
cK W R N E P x3 x4 x5 x7 x8 ap t76 h
def Vm:GK:=fun W R N E P N' vs h=>da W R N' (fun(i:Nat) (vs:List AV) (h:AH)=>if i=4 then bV W R N E P (vs.getD 0 aa) (vs.getD 1 aa) (vs.getD 2 aa) (vs.getD 3 aa) (vs.getD 4 aa) h else if i=1 then cn W R N E P (vs.getD 0 aa) (vs.getD 1 aa) (vs.getD 2 aa) (vs.getD 3 aa) h else E i vs h) P (vs.getD 0 aa) (vs.getD 1 aa) (vs.getD 2 aa) (vs.getD 3 aa) (vs.getD 4 aa) (vs.getD 5 aa) h
def cT:N6:=fun W R N E P x3 x4 x5 x7 x8 ap h=>
cY (Vm W R N E P) [x3,x4,x5,x7,x8,ap] h
def dx:N5:=fun W R N E P x3 x4 x5 x7 x8 h=>
cT W R N E P x3 x4 x5 x7 x8 (.sc (.int .i64 0)) h
def dW:N6:=fun _ _ N _ _ x3 x4 x5 x7 x8 x9 h=>
ah Pg .add 3 true x9 (.sc (.int .i64 1)) fun t77=>
N [x3,x4,x5,x7,x8,t77] h
def dT:N6:=fun W R N E P x3 x4 x5 x7 x8 x9 h=>
ah Pg .sub 3 true (.sc (.int .i64 (-1))) x7 fun t78=>
br (some (1,none)) x8 x9 fun t79=>
aG (some 1) t79 t78 h W fun w_=>
dW W R N E P x3 x4 x5 x7 x8 x9 w_
def dV:N7:=fun W R N E P x3 x4 x5 x7 x8 x9 tJ h=>
aH tJ (
dT W R N E P x3 x4 x5 x7 x8 x9 h) (
E 2 [x3,x4,x5,x7,x8] h)
def ed:N6:=fun W R N E P x3 x4 x5 x7 x8 x9 h=>
(ba x8=false)/\bK x8 fun t81=>
ah Pg .lss 3 false x9 t81 fun t82=>
dV W R N E P x3 x4 x5 x7 x8 x9 t82 h
def Vl:GK:=fun W R N E P N' vs h=>ed W R N' (fun(i:Nat) (vs:List AV) (h:AH)=>if i=2 then dx W R N E P (vs.getD 0 aa) (vs.getD 1 aa) (vs.getD 2 aa) (vs.getD 3 aa) (vs.getD 4 aa) h else if i=1 then cn W R N E P (vs.getD 0 aa) (vs.getD 1 aa) (vs.getD 2 aa) (vs.getD 3 aa) h else E i vs h) P (vs.getD 0 aa) (vs.getD 1 aa) (vs.getD 2 aa) (vs.getD 3 aa) (vs.getD 4 aa) (vs.getD 5 aa) h
def eJ:N6:=fun W R N E P x3 x4 x5 x7 x8 x9 h=>
cY (Vl W R N E P) [x3,x4,x5,x7,x8,x9] h
def dF:N5:=fun W R N E P x3 x4 x5 x7 x8 h=>
eJ W R N E P x3 x4 x5 x7 x8 (.sc (.int .i64 0)) h
def d_:N4:=fun W R N E P x3 x4 x5 x7 h=>
ai (some 2) x3 fun t83=>
al (some false) (some 1) t83 h fun t84 _=>
br (some (7,none)) t84 x7 fun t86=>
ai (some 2) t86 fun t87=>
al (some false) (some 1) t87 h fun t88 _=>
dF W R N E P x3 x4 x5 x7 t88 h
def dL:N5:=fun W R N E P x3 x4 x5 x7 bI h=>
aH bI (
d_ W R N E P x3 x4 x5 x7 h) (
E 0 [x3,x4,x5] h)
def eC:N4:=fun W R N E P x3 x4 x5 x7 h=>
ai (some 2) x3 fun t90=>
al (some false) (some 1) t90 h fun t91 _=>
(ba t91=false)/\bK t91 fun t93=>
ah Pg .lss 3 false x7 t93 fun t94=>
dL W R N E P x3 x4 x5 x7 t94 h
def Vn:GK:=fun W R N E P N' vs h=>eC W R N' (fun(i:Nat) (vs:List AV) (h:AH)=>if i=0 then cb W R N E P (vs.getD 0 aa) (vs.getD 1 aa) (vs.getD 2 aa) h else E i vs h) P (vs.getD 0 aa) (vs.getD 1 aa) (vs.getD 2 aa) (vs.getD 3 aa) h
def eu:N4:=fun W R N E P x3 x4 x5 x7 h=>
cY (Vn W R N E P) [x3,x4,x5,x7] h
def dO:N3:=fun W R N E P x3 x4 x5 h=>
eu W R N E P x3 x4 x5 (.sc (.int .i64 0)) h
def e_:N3:=fun W R N E P x0 x1 x2 h=>
eI 3 27 x0 h fun t95 Fy=>
eI 3 27 x1 Fy fun t97 Fx=>
eI 3 27 x2 Fx fun t99 FR=>
dO W R N E P t95 t97 t99 FR
theorem aM{x0 x1 x2:AV}{h:AH}{M:WK}{R:RK}(hp:e_ (fun id=>M id\/h.next<=id) (aJ Pg [.tmp 6] R) (aJ Pg [.tmp 6] R) (fun _ _ _=>False) (fun v h=>R (.cg v) h) x0 x1 x2 h):aE Pg 15 [x0,x1,x2] h M R:=
 fin (n:=111) (pl:=[(27,⟨[(none,(fr 0 4)),(some (3,true),(fr 4 8)),(none,(fr 12 2))],false,[],[]⟩)]) (rs:=[.tmp 6]) (L:=rs) (fun c=>(a3 e_ 0 1 2 c)) Try.mixed Try.func15 (fun c=>
(sq (a3 e_ 0 1 2 c)
(sn
(sn
(sn
(sn
(sm (a1 n1 6 c))
(gr (gn (a3 n4 3 4 5 c) (gx (a3 n3 3 5 101 c) (gl (a2 n2 101 109 c))))))
(sq (a3 aQ 3 4 5 c)
(bk 10 (lp [3,4,5,13] rs [(10,[3,4,5])] (a4 n9 3 4 5 13 c) cB (fun i vs h=>if i=10 then n4 c.W c.R c.N c.E c.P (vs.getD 0 aa) (vs.getD 1 aa) (vs.getD 2 aa) h else c.E i vs h) (.b (.t .o)) fun c=>
(sn
(sn
(sm (a4 n5 3 4 5 13 c))
(bk 11 (sm (a4 n6 3 4 5 13 c))))
(sq (a4 n8 3 4 5 13 c)
(cd (a5 n7 3 4 5 13 89 c) tr tr)))))))
(sq (a3 cb 3 4 5 c)
(bk 6 (lp [3,4,5,11] rs [(6,[3,4,5])] (a4 bW 3 4 5 11 c) fY (fun i vs h=>if i=6 then aQ c.W c.R c.N c.E c.P (vs.getD 0 aa) (vs.getD 1 aa) (vs.getD 2 aa) h else c.E i vs h) (.b (.t .o)) fun c=>
(sn
(sn
(sm (a4 a_ 3 4 5 11 c))
(bk 7 (sq (a4 bQ 3 4 5 11 c)
(bk 8 (lp [3,4,5,11,12] rs [(8,[3,4,5,11]),(7,[3,4,5,11]),(6,[3,4,5])] (a5 bO 3 4 5 11 12 c) kV (fun i vs h=>if i=8 then a_ c.W c.R c.N c.E c.P (vs.getD 0 aa) (vs.getD 1 aa) (vs.getD 2 aa) (vs.getD 3 aa) h else if i=7 then a_ c.W c.R c.N c.E c.P (vs.getD 0 aa) (vs.getD 1 aa) (vs.getD 2 aa) (vs.getD 3 aa) h else c.E i vs h) (.b (.b (.t .o))) fun c=>
(sn
(sn
(sm (a5 bc 3 4 5 11 12 c))
(bk 9 (sq (a5 bC 3 4 5 11 12 c)
(cd (a6 bD 3 4 5 11 12 87 c) (sl (a0 bt c)) tr))))
(sq (a5 bH 3 4 5 11 12 c)
(cd (a6 bz 3 4 5 11 12 73 c) tr tr))))))))
(sq (a4 cp 3 4 5 11 c)
(cd (a5 b_ 3 4 5 11 62 c) tr tr)))))))
(sq (a3 dO 3 4 5 c)
(bk 0 (lp [3,4,5,7] rs [(0,[3,4,5])] (a4 eu 3 4 5 7 c) Vn (fun i vs h=>if i=0 then cb c.W c.R c.N c.E c.P (vs.getD 0 aa) (vs.getD 1 aa) (vs.getD 2 aa) h else c.E i vs h) (.b (.t .o)) fun c=>
(sn
(sn
(sm (a4 cn 3 4 5 7 c))
(bk 1 (sq (a4 d_ 3 4 5 7 c)
(sn
(sn
(sq (a5 bV 3 4 5 7 8 c)
(cd (a5 cl 3 4 5 7 57 c) (sl (a0 cj c)) tr))
(sq (a5 dx 3 4 5 7 8 c)
(bk 4 (lp [3,4,5,7,8,10] rs [(4,[3,4,5,7,8]),(1,[3,4,5,7]),(0,[3,4,5])] (a6 cT 3 4 5 7 8 10 c) Vm (fun i vs h=>if i=4 then bV c.W c.R c.N c.E c.P (vs.getD 0 aa) (vs.getD 1 aa) (vs.getD 2 aa) (vs.getD 3 aa) (vs.getD 4 aa) h else if i=1 then cn c.W c.R c.N c.E c.P (vs.getD 0 aa) (vs.getD 1 aa) (vs.getD 2 aa) (vs.getD 3 aa) h else c.E i vs h) (.b (.t (.b (.t .o)))) fun c=>
(sn
(sn
(sm (a6 cy 3 4 5 7 8 10 c))
(bk 5 (sm (a6 cz 3 4 5 7 8 10 c))))
(sq (a6 da 3 4 5 7 8 10 c)
(cd (a7 cK 3 4 5 7 8 10 39 c) tr tr)))))))
(sq (a5 dF 3 4 5 7 8 c)
(bk 2 (lp [3,4,5,7,8,9] rs [(2,[3,4,5,7,8]),(1,[3,4,5,7]),(0,[3,4,5])] (a6 eJ 3 4 5 7 8 9 c) Vl (fun i vs h=>if i=2 then dx c.W c.R c.N c.E c.P (vs.getD 0 aa) (vs.getD 1 aa) (vs.getD 2 aa) (vs.getD 3 aa) (vs.getD 4 aa) h else if i=1 then cn c.W c.R c.N c.E c.P (vs.getD 0 aa) (vs.getD 1 aa) (vs.getD 2 aa) (vs.getD 3 aa) h else c.E i vs h) (.b (.t (.b (.t .o)))) fun c=>
(sn
(sn
(sm (a6 dW 3 4 5 7 8 9 c))
(bk 3 (sm (a6 dT 3 4 5 7 8 9 c))))
(sq (a6 ed 3 4 5 7 8 9 c)
(cd (a7 dV 3 4 5 7 8 9 30 c) tr tr))))))))))
(sq (a4 eC 3 4 5 7 c)
(cd (a5 dL 3 4 5 7 18 c) tr tr))))))))) hp
attribute [simp] n1 n2 n3 n4 n5 n6 n7 n8 aQ a_ bc bt bD bC bz bH bQ b_ cp cb cn cj cl bV cy cz cK da dx dW dT dV ed dF d_ dL eC dO e_
end eE
end
end Go.Proofs.Ytjehibknlmehmaa
