/- The rows of a checked circuit come to the circuit. No condition. -/
import Derived.Test.YtjehibknlmehmaaGreatDoorBak
set_option maxRecDepth 100000
namespace Go.Proofs.YtjehibknlmehmaaGreatDoor
section
open Go.Ab
theorem Il:IntKind.u64.bits=64:=rfl
theorem uP(a b:Nat)(ha:a<18446744073709551616)(hb:b<18446744073709551616):lW a b=((a &&& b:Nat):Int):=by
 unfold lW
 rw[Il]
 have e:∀x:Nat,BitVec.ofInt 64 (x:Int)=BitVec.ofNat 64 x:=fun x=>by simp
 rw[e,e,BitVec.toNat_and,BitVec.toNat_ofNat,BitVec.toNat_ofNat,Nat.mod_eq_of_lt (by simpa using ha),Nat.mod_eq_of_lt (by simpa using hb)]
 have aJ:a &&& b<18446744073709551616:=Nat.lt_of_le_of_lt Nat.and_le_left ha
 have hw:=IF ((a &&& b:Nat):Int)
 have e2:IntKind.u64.wrap ((a &&& b:Nat):Int)=((a &&& b:Nat):Int)%18446744073709551616:=by unfold IntKind.wrap;rfl
 rw[e2]
 omega
theorem Hz(a b:Nat)(ha:a<18446744073709551616)(hb:b<18446744073709551616):CW a b=((a |||b:Nat):Int):=by
 unfold CW
 rw[Il]
 have e:∀x:Nat,BitVec.ofInt 64 (x:Int)=BitVec.ofNat 64 x:=fun x=>by simp
 rw[e,e,BitVec.toNat_or,BitVec.toNat_ofNat,BitVec.toNat_ofNat,Nat.mod_eq_of_lt (by simpa using ha),Nat.mod_eq_of_lt (by simpa using hb)]
 have aJ:a |||b<18446744073709551616:=Nat.or_lt_two_pow (n:=64) (by simpa using ha) (by simpa using hb)
 have e2:IntKind.u64.wrap ((a |||b:Nat):Int)=((a |||b:Nat):Int)%18446744073709551616:=by unfold IntKind.wrap;rfl
 rw[e2]
 omega
def mN(s f:Nat):Nat:=(2^s-1)*2^f
theorem K2{s f i:Nat}:(mN s f).testBit i=(decide (f<=i)&&decide (i<f+s)):=by
 unfold mN
 rw[Nat.testBit_mul_two_pow]
 by_cases h:f<=i
 ·rw[Nat.testBit_two_pow_sub_one]
  simp[h];omega
 ·simp[h]
theorem P3{s f:Nat}(h:s+f<=64):mN s f<18446744073709551616:=by
 unfold mN
 have h1:2^s*2^f<=2^64:=by rw[<-Nat.pow_add];exact Nat.pow_le_pow_right (by decide) h
 have h2:0<2^s:=Nat.two_pow_pos s
 have h3:0<2^f:=Nat.two_pow_pos f
 have h4:(2^s-1)*2^f+2^f=2^s*2^f:=by rw[<-Nat.succ_mul];congr 1;omega
 have h5:(2:Nat)^64=18446744073709551616:=by decide
 omega
theorem EB{x:Int}(h0:0<=x)(h1:x<18446744073709551616):IntKind.u64.wrap x=x:=by
 have e2:IntKind.u64.wrap x=x%18446744073709551616:=by unfold IntKind.wrap;rfl
 rw[e2];omega
theorem CD(x:Int):IntKind.u64.wrap x=x%18446744073709551616:=by unfold IntKind.wrap;rfl
theorem ri(n:Nat):(2:Int)^n=((2^n:Nat):Int):=by simp
theorem IX{g:fJ}{s f:Nat}(hs:g.size=s)(hf:g.from_=f)(h1:1<=s)(h:s+f<=64):nW g=(mN s f:Nat):=by
 unfold nW
 rw[hs,hf,zY,zY,Nat.min_eq_left (by omega),Nat.min_eq_left (by omega),Int.one_mul,ri,ri]
 have h2:0<2^s:=Nat.two_pow_pos s
 have h4:IntKind.u64.wrap (IntKind.u64.wrap ((2^s:Nat):Int)-1)=((2^s-1:Nat):Int):=by
  have h3:2^s<=2^64:=Nat.pow_le_pow_right (by decide) (by omega)
  have h5:(2:Nat)^64=18446744073709551616:=by decide
  rw[CD,CD]
  generalize 2^s=P at *
  omega
 rw[h4]
 have h6:=P3 h
 unfold mN at h6 ⊢
 rw[show((2^s-1:Nat):Int)*((2^f:Nat):Int)=(((2^s-1)*2^f:Nat):Int) by simp]
 exact EB (by omega) (by omega)
theorem J5{g:fJ}{s f v:Nat}{n:Int}(hs:g.size=s)(hf:g.from_=f)(hn:n=v)(hv:v<2^s)(h:s+f<=64):valOf g n=((v*2^f:Nat):Int)/\v*2^f<18446744073709551616:=by
 unfold valOf
 have h1:v*2^f<2^s*2^f:=Nat.mul_lt_mul_of_pos_right hv (Nat.two_pow_pos f)
 have h2:2^s*2^f<=2^64:=by rw[<-Nat.pow_add];exact Nat.pow_le_pow_right (by decide) h
 have h5:(2:Nat)^64=18446744073709551616:=by decide
 have h6:v<=v*2^f:=Nat.le_mul_of_pos_right _ (Nat.two_pow_pos f)
 rw[hf,hn,zY,Nat.min_eq_left (by omega),ri,EB (x:=(v:Int)) (by omega) (by omega)]
 rw[show((v:Nat):Int)*((2^f:Nat):Int)=((v*2^f:Nat):Int) by simp]
 exact⟨EB (by omega) (by omega),by omega⟩
end
section
open Go.Ab
theorem Gu{m j:Nat}(hm:m<18446744073709551616)(hj:j<64):jF (m:Int) (j:Int)=if m.testBit j then 1 else 0:=by
 unfold jF
 rw[Il,zY,Nat.min_eq_left (by omega)]
 have e3:(m:Int).fdiv (2^j)=((m/2^j:Nat):Int):=by
  rw[show((2:Int)^j)=((2^j:Nat):Int) by simp]
  rw[Int.fdiv_eq_ediv_of_nonneg _ (Int.natCast_nonneg _)]
  rfl
 have hd:m/2^j<18446744073709551616:=Nat.lt_of_le_of_lt (Nat.div_le_self _ _) hm
 rw[e3,show(1:Int)=((1:Nat):Int) from rfl,uP _ _ hd (by omega),Nat.and_one_is_mod]
 have h1:m.testBit j=decide (m/2^j%2=1):=Nat.testBit_eq_decide_div_mod_eq
 rw[h1]
 rcases Nat.mod_two_eq_zero_or_one (m/2^j) with h |h<;>simp[h]
structure u7 (b:Int) (o:bq) (m v:Nat):Prop where
 mE:o.cR=m
 vE:o.value=v
 mL:m<18446744073709551616
 vL:v<18446744073709551616
 mB:∀i,m.testBit i=true->(i:Int)<b
 vM:∀i,v.testBit i=true->m.testBit i=true
 c:o.cond=decide (m≠0)
theorem SL{b:Int}{o:bq}(hb:0<=b/\b<=64)(hm:zc o)(h:pK b o=false):∃m v,u7 b o m v:=by
 obtain⟨m,Qt⟩:∃n:Nat,o.cR=n:=⟨o.cR.toNat,by have:=hm.1;omega⟩
 obtain⟨v,Y9⟩:∃n:Nat,o.value=n:=⟨o.value.toNat,by have:=hm.2.2.1;omega⟩
 obtain⟨b,rfl⟩:∃n:Nat,b=n:=⟨b.toNat,by omega⟩
 unfold zc at hm
 have Zo:m<18446744073709551616:=by omega
 have Qm:v<18446744073709551616:=by omega
 unfold pK at h
 simp only[Bool.or_eq_false_iff]at h
 obtain⟨⟨⟨⟨h1,h2⟩,h3⟩,h4⟩,h5⟩:=h
 have i64:∀{a i:Nat},a<18446744073709551616->a.testBit i=true->i<64:=fun{a i} ha hi=>by
  rcases Nat.lt_or_ge i 64 with h |h
  ·exact h
  ·rw[Nat.testBit_lt_two_pow (Nat.lt_of_lt_of_le ha (by have:=Nat.pow_le_pow_right (n:=2) (by decide) h;exact this))]at hi;cases hi
 refine⟨m,v,Qt,Y9,Zo,Qm,fun i hi=>?_,fun i hi=>?_,?_⟩
 ·rw[Qt,Mt (by omega),GA]at h4
  have h4:sO m (2^b-1)=0:=by
   have:((sO m (2^b-1):Nat):Int)=0:=by simpa using h4
   omega
  have:=DY (a:=m) (b:=2^b-1) (i:=i)
  rw[h4,Nat.zero_testBit,hi,zL (i64 Zo hi),Nat.testBit_two_pow_sub_one]at this
  rcases Nat.lt_or_ge i b with h |h
  ·omega
  ·rw[zK (by omega)]at this;cases this
 ·rw[Qt,Y9,GA]at h5
  have h5:sO v m=0:=by
   have:((sO v m:Nat):Int)=0:=by simpa using h5
   omega
  have:=DY (a:=v) (b:=m) (i:=i)
  rw[h5,Nat.zero_testBit,hi,zL (i64 Qm hi)]at this
  simpa using this.symm
 ·rw[Qt]at h2 h3
  cases hc:o.cond with
  |true=>
   rw[hc]at h2
   have:¬((m:Nat):Int)=0:=by simpa using h2
   rw[zL (by omega)]
  |false=>
   rw[hc]at h3
   have:((m:Nat):Int)=0:=by
    simp only[zT,Bool.true_and,Bool.or_eq_false_iff]at h3
    simpa using h3.1
   rw[zK (by omega)]
theorem DP{ops:List bq}{o:bq}(ho:o∈ops):∀n,∀g∈b5 ops n,∀j,g.1<=j->j<g.1+g.2->jF o.cR j=jF o.cR g.1
 |0,g,h=>by cases h
 |n+1,g,h=>by
  have ih:=DP ho n
  have hc:=xf ops n
  have one:∀j,(n:Int)<=j->j<n+1->jF o.cR j=jF o.cR n:=fun j h1 h2=>by rw[show j=n by omega]
  simp only[b5,sY]at h
  split at h
  ·simp at h;subst h;exact one
  ·rename_i g0 hg
   split at h
   ·rcases List.mem_append.1 h with h |h
    ·exact ih g h
    ·simp at h;subst h;exact one
   ·rename_i hn
    rcases List.mem_append.1 h with h |h
    ·exact ih g (List.dropLast_subset _ h)
    ·simp at h;subst h
     simp only[not_or]at hn
     have hs:sT n o=false:=by
      cases e:sT (n:Int) o with
      |false=>rfl
      |true=>exact absurd (List.any_eq_true.2 ⟨o,ho,e⟩) hn.2
     unfold sT at hs
     have hs:jF o.cR n=jF o.cR (n-1):=by simpa using hs
     have e:b5 ops n=(b5 ops n).dropLast++[g0]:=by
      have b7:b5 ops n≠[]:=fun e=>by rw[e]at hg;cases hg
      have h1:=List.dropLast_concat_getLast b7
      have h2:(b5 ops n).getLast b7=g0:=by
       rw[<-h1]at hg;simpa using hg
      rw[h2]at h1;exact h1.symm
     rw[e]at hc
     obtain⟨_,h2,h3⟩:=fi.split hc
     have hi:=ih g0 (List.mem_of_getLast? hg)
     intro j h4 h5
     show jF o.cR j=jF o.cR g0.1
     simp only at h4 h5
     rcases Int.lt_or_le j (g0.1+g0.2) with h |h
     ·exact hi j h4 h
     ·rw[show j=n by omega,hs]
      exact hi _ (by omega) (by omega)
end
section
open Go.Ab
def gF(q:Int)(ao:List (Int×Int)):Bk:=⟨if 0<q then[⟨bs [113],0,q⟩] else[],(du ao).map fun y=>⟨bs (cB y.1),y.2.1,y.2.2⟩,[]⟩
theorem Gs{a b:List UInt8}(h:bs a=bs b):a=b:=by
 have:(bs a).data.toList=(bs b).data.toList:=by rw[h]
 simpa[bs] using this
theorem DU{i j:Nat}(hi:i<=1000)(hj:j<=1000)(h:cB i=cB j):i=j:=by
 unfold cB at h
 have h1:Lib.decDigits i=Lib.decDigits j:=by simpa using h
 have a:=tU (z:=(i:Int)) (by omega) (by omega)
 have b:=tU (z:=(j:Int)) (by omega) (by omega)
 rw[Lib.itoa_nonneg]at a b
 rw[h1,b]at a
 simp only[zQ]at a
 omega
theorem w7{a b:Row}(h:er a=b):a.kind=b.kind/\a.name=b.name/\a.args=b.args/\a.num=b.num/\a.rows=b.rows/\a={ b with place:=a.place }:=by
 obtain⟨k1,n1,a1,u1,r1,p1⟩:=a
 subst h
 exact⟨rfl,rfl,rfl,rfl,rfl,rfl⟩
theorem CY{r:Row}{t:List Row}:jZ (r::t)=oW r ((t.length:Int)+1)::jZ t:=by
 apply List.ext_getElem?;intro i
 cases i with
 |zero=>simp[jZ]
 |succ i=>
  simp only[jZ,List.getElem?_mapIdx,List.length_cons,zB]
  cases t[i]? with
  |none=>rfl
  |some x=>
   simp only[yB]
   congr 2
   omega
theorem Nq{l:List fJ}{k:Nat}{r:fJ}(hk:l[k]?=some r)(hd:∀(j:Nat) s,j<k->l[j]?=some s->s.name≠r.name):dC l r.name=some r:=by
 unfold dC
 obtain⟨h1,h2⟩:=zM.1 hk
 rw[List.find?_eq_some_iff_getElem]
 refine⟨by simp,k,h1,h2,fun j hj=>?_⟩
 have:=hd j _ hj (zJ (by omega))
 simpa using this
theorem xJ{q:Int}{ao:List (Int×Int)}{y:Nat×(Int×Int)}(hr:ao.length<=64)(hy:y∈du ao):dC (gF q ao).bs (bs (cB y.1))=some ⟨bs (cB y.1),y.2.1,y.2.2⟩:=by
 obtain⟨k,hk⟩:=List.mem_iff_getElem?.1 hy
 have pX:=hk
 rw[nz]at hk
 obtain⟨g,hg,rfl⟩:=Option.map_eq_some_iff.1 hk
 have hkl:=(zM.1 hg).1
 refine Nq (r:=⟨bs (cB k),g.1,g.2⟩) (k:=k) (by show((du ao).map _)[k]?=_;rw[List.getElem?_map,pX];rfl) fun j s hj hs=>?_
 have hs:((du ao).map fun y=>(⟨bs (cB y.1),y.2.1,y.2.2⟩:fJ))[j]?=some s:=hs
 rw[List.getElem?_map,nz,Option.map_map]at hs
 obtain⟨g',_,rfl⟩:=Option.map_eq_some_iff.1 hs
 intro e
 have e:bs (cB j)=bs (cB k):=e
 have:=DU (by omega) (by omega) (Gs e)
 omega
theorem OW(x:Except Int OL):mm (fun l=>.ok l) x=x:=by cases x<;>rfl
structure WB (m v p:Nat) (w:iE) (M V:Nat):Prop where
 mE:w.cR=M
 vE:w.value=V
 mB:∀i,M.testBit i=(m.testBit i&&decide (i<p))
 vB:∀i,V.testBit i=(v.testBit i&&decide (i<p))
 mL:M<18446744073709551616
 vL:V<18446744073709551616
 is:w.is=decide (M≠0)
theorem Qf{o:bq}{v f s:Nat}{y:Nat×(Int×Int)}(hv:o.value=v)(Qm:v<18446744073709551616)(hf:y.2.1=f)(hs:y.2.2=s)(h1:s<=32)(h2:f+s<=64):(sw o y).num=((v/2^f%2^s:Nat):Int):=by
 show IntKind.i64.wrap (lW (o.value.fdiv (2^(min y.2.1.toNat IntKind.u64.bits))) (E9 y.2.2))=_
 have hp:2^s<=2^32:=Nat.pow_le_pow_right (by decide) h1
 have Vc:1<=2^s:=Nat.one_le_two_pow
 rw[hv,hf,hs,Il,zY,Nat.min_eq_left (by omega)]
 have e3:(v:Int).fdiv (2^f)=((v/2^f:Nat):Int):=by
  rw[show((2:Int)^f)=((2^f:Nat):Int) by simp]
  rw[Int.fdiv_eq_ediv_of_nonneg _ (Int.natCast_nonneg _)]
  rfl
 have e4:E9 (s:Int)=((2^s-1:Nat):Int):=by
  unfold E9
  rw[zY,ri];omega
 have hd:v/2^f<18446744073709551616:=Nat.lt_of_le_of_lt (Nat.div_le_self _ _) Qm
 rw[e3,e4,uP _ _ hd (by omega),Nat.and_two_pow_sub_one_eq_mod]
 have:=Nat.mod_lt (v/2^f) (show 0<2^s by omega)
 exact aX (by omega) (by omega)
theorem Hk{v f s i:Nat}:(v/2^f%2^s*2^f).testBit i=(decide (f<=i)&&decide (i<f+s)&&v.testBit i):=by
 rw[Nat.testBit_mul_two_pow]
 by_cases h:f<=i
 ·rw[Nat.testBit_mod_two_pow,Nat.testBit_div_two_pow,Nat.sub_add_cancel h]
  have e:decide (i-f<s)=decide (i<f+s):=by
   by_cases h2:i<f+s
   ·rw[zL h2,zL (by omega)]
   ·rw[zK h2,zK (by omega)]
  rw[e];simp[h]
 ·simp[h]
theorem J3{b:Int}{o:bq}{m v p:Nat}{w:iE}{M V:Nat}{y:Nat×(Int×Int)}{s:Nat}{nm:ByteArray}(c:u7 b o m v)(hb:b<=64)(wb:WB m v p w M V)(hf:y.2.1=p)(hs:y.2.2=s)(h1:1<=s)(h2:s<=32)(h3:(p:Int)+s<=b)(hm:∀i,p<=i->i<p+s->m.testBit i=true) :
  ∃w' M' V',mJ w ⟨nm,y.2.1,y.2.2⟩ (sw o y).num=some w'/\WB m v (p+s) w' M' V':=by
 have tF:s+p<=64:=by omega
 have hn:=Qf (y:=y) c.vE c.vL hf hs h2 (by omega)
 have aJ:v/2^p%2^s<2^s:=Nat.mod_lt _ (Nat.two_pow_pos s)
 have em:=IX (g:=⟨nm,y.2.1,y.2.2⟩) hs hf h1 tF
 have ev:=J5 (g:=⟨nm,y.2.1,y.2.2⟩) (n:=(sw o y).num) hs hf hn aJ tF
 have Vm:=P3 tF
 have z1:V &&& mN s p=0:=by
  apply Nat.eq_of_testBit_eq;intro i
  rw[Nat.testBit_and,wb.vB,K2,Nat.zero_testBit]
  by_cases h:i<p
  ·simp[h];intro _ h;omega
  ·simp[h]
 have z2:v/2^p%2^s*2^p &&& M=0:=by
  apply Nat.eq_of_testBit_eq;intro i
  rw[Nat.testBit_and,wb.mB,Hk,Nat.zero_testBit]
  by_cases h:i<p
  ·simp[h];intro h;omega
  ·simp[h]
 have b1:∀i,(M |||mN s p).testBit i=(m.testBit i&&decide (i<p+s)):=fun i=>by
  rw[Nat.testBit_or,wb.mB,K2]
  by_cases h:i<p
  ·have:i<p+s:=by omega
   have h4:¬p<=i:=by omega
   simp[h,this,h4]
  ·by_cases h4:i<p+s
   ·simp[h,h4,hm i (by omega) h4];omega
   ·simp[h,h4]
 have b2:∀i,(V |||v/2^p%2^s*2^p).testBit i=(v.testBit i&&decide (i<p+s)):=fun i=>by
  rw[Nat.testBit_or,wb.vB,Hk]
  by_cases h:i<p
  ·have:i<p+s:=by omega
   have h4:¬p<=i:=by omega
   simp[h,this,h4]
  ·by_cases h4:i<p+s
   ·have h5:p<=i:=by omega
    simp[h,h4,h5]
   ·simp[h,h4]
 refine⟨⟨true,((M |||mN s p:Nat):Int),((V |||v/2^p%2^s*2^p:Nat):Int)⟩,_,_,?_,⟨rfl,rfl,b1,b2,Nat.or_lt_two_pow (n:=64) (by simpa using wb.mL) (by simpa using Vm),Nat.or_lt_two_pow (n:=64) (by simpa using wb.vL) (by simpa using ev.2),?_⟩⟩
 ·unfold mJ
  rw[em,ev.1,wb.mE,wb.vE,uP _ _ wb.vL Vm,uP _ _ ev.2 wb.mL,z1,z2,zW (by simp),Hz _ _ wb.mL Vm,Hz _ _ wb.vL ev.2]
 ·have:M |||mN s p≠0:=fun e=>by
   have:=b1 p
   rw[e,Nat.zero_testBit,hm p (zU _) (by omega),zL (by omega)]at this
   cases this
  rw[zL this]
end
section
open Go.Ab
def JP(o:bq)(g:Int×Int):Prop:=1<=g.2/\g.2<=32/\∀j,g.1<=j->j<g.1+g.2->jF o.cR j=jF o.cR g.1
theorem MY{b:Int}{o:bq}{m v p:Nat}{w:iE}{M V:Nat}(c:u7 b o m v)(wb:WB m v p w M V)(hp:(p:Int)=b):w=⟨o.cond,o.cR,o.value⟩:=by
 have e1:M=m:=by
  apply Nat.eq_of_testBit_eq;intro i
  rw[wb.mB]
  cases h:m.testBit i with
  |false=>rfl
  |true=>rw[zL (by have:=c.mB i h;omega)];rfl
 have e2:V=v:=by
  apply Nat.eq_of_testBit_eq;intro i
  rw[wb.vB]
  cases h:v.testBit i with
  |false=>rfl
  |true=>rw[zL (by have:=c.mB i (c.vM i h);omega)];rfl
 obtain⟨w1,w2,w3⟩:=w
 have a1:=wb.mE;have a2:=wb.vE;have a3:=wb.is
 simp only at a1 a2 a3
 rw[a1,a2,a3,e1,e2,c.c,c.mE,c.vE]
theorem Lm{o:bq}{y:Nat×(Int×Int)}{n:Int}{r:Row}(h:er r=oW (sw o y) n):r.kind=cz/\r.name=bs (cB y.1)/\r.num=(sw o y).num/\r.rows=n:=by
 obtain⟨a,b,_,d,e,_⟩:=w7 h
 exact⟨a,b,d,e⟩
theorem Gg{bk:Bk}{L:List Row}{b:Int}{o:bq}{m v:Nat}{r0:Row}(c:u7 b o m v)(hb:b<=64)(h0:r0.rows=0) :
  ∀(t:List (Nat×(Int×Int))){p M V:Nat}{w:iE}(rs more:List Row)(l:OL),(∀y∈t,dC bk.bs (bs (cB y.1))=some ⟨bs (cB y.1),y.2.1,y.2.2⟩/\JP o y.2)->fi (t.map (·.2)) p b->WB m v p w M V->rs.map er=jZ (dA o t)++[r0] ->
  ∃pl,fY bk L w (rs++more) l=mm (fY bk L w more) (qk bk L ⟨o.cond,o.cR,o.value⟩ { r0 with place:=pl } [] l)
 |[],p,M,V,w,rs,more,l,_,hc,wb,da=>by
  have hc:(p:Int)=b:=hc
  have ew:=MY c wb hc
  have da:rs.map er=[r0]:=da
  match rs,da with
  |[r],da=>
   simp only[List.map_cons,List.map_nil,List.cons.injEq,zI]at da
   obtain⟨_,_,_,_,hr,e⟩:=w7 da
   refine⟨r.place,?_⟩
   rw[List.cons_append,List.nil_append,pt,<-ew,<-e,hr,h0]
   rfl
 |y::t,p,M,V,w,rs,more,l,hy,hc,wb,da=>by
  have hc:y.2.1=(p:Int)/\1<=y.2.2/\fi (t.map (·.2)) ((p:Int)+y.2.2) b:=hc
  obtain⟨hf,dP,hc⟩:=hc
  obtain⟨s,hs⟩:∃s:Nat,y.2.2=s:=⟨y.2.2.toNat,by omega⟩
  have UW:=hy y (by simp)
  have hle:=fi.le hc
  have Ln:∀z∈t,dC bk.bs (bs (cB z.1))=some ⟨bs (cB z.1),z.2.1,z.2.2⟩/\JP o z.2:=fun z hz=>hy z (by simp[hz])
  have h2:=UW.2.2.1
  have wU:fi (t.map (·.2)) ((p+s:Nat):Int) b:=by
   have:(p:Int)+y.2.2=((p+s:Nat):Int):=by omega
   rw[<-this];exact hc
  have VQ:jF o.cR y.2.1=if m.testBit p then 1 else 0:=by rw[hf,c.mE];exact Gu c.mL (by omega)
  have ZF:∀i,p<=i->i<p+s->m.testBit i=m.testBit p:=fun i h3 h4=>by
   have:=UW.2.2.2 (i:Int) (by omega) (by omega)
   rw[VQ,c.mE,Gu c.mL (by omega)]at this
   cases h:m.testBit i<;>cases h':m.testBit p<;>simp[h,h']at this<;>rfl
  cases hp:m.testBit p with
  |false=>
   have sC:dA o (y::t)=dA o t:=by
    unfold dA
    rw[List.filter_cons,VQ,hp];rfl
   rw[sC]at da
   have Ts:WB m v (p+s) w M V:=by
    have key:∀i,m.testBit i=true->(decide (i<p)=decide (i<p+s)):=fun i hi=>by
     by_cases h3:i<p
     ·rw[zL h3,zL (by omega)]
     ·by_cases h4:i<p+s
      ·have:=ZF i (by omega) h4
       rw[hi,hp]at this;cases this
      ·rw[zK h3,zK h4]
    refine⟨wb.mE,wb.vE,fun i=>?_,fun i=>?_,wb.mL,wb.vL,wb.is⟩
    ·rw[wb.mB]
     cases h:m.testBit i with
     |false=>rfl
     |true=>rw[key i h]
    ·rw[wb.vB]
     cases h:v.testBit i with
     |false=>rfl
     |true=>rw[key i (c.vM i h)]
   exact Gg c hb h0 t rs more l Ln wU Ts da
  |true=>
   have sC:dA o (y::t)=sw o y::dA o t:=by
    unfold dA
    rw[List.filter_cons,VQ,hp];rfl
   rw[sC,CY,List.cons_append]at da
   match rs,da with
   |r::rs,da=>
    simp only[List.map_cons,List.cons.injEq]at da
    obtain⟨k1,k2,k3,k4⟩:=Lm da.1
    have hlen:rs.length=(dA o t).length+1:=by
     have:=congrArg List.length da.2
     simpa[pd] using this
    obtain⟨w',M',V',hw,Ts⟩:=J3 (nm:=bs (cB y.1)) c hb wb hf hs (by omega) (by omega) (by omega) (fun i h3 h4=>by rw[ZF i h3 h4,hp])
    obtain⟨pl,ih⟩:=Gg (L:=L) c hb h0 t rs [] l Ln wU Ts da.2
    refine⟨pl,?_⟩
    have hn:r.rows.toNat=rs.length:=by rw[k4,hlen];omega
    rw[List.cons_append,pt,hn,List.drop_left,List.take_left]
    congr 1
    rw[List.append_nil]at ih
    have hd:(fun l=>fY bk L w' [] l)=fun l=>Except.ok l:=by funext l;exact qW
    have sD:mm (fY bk L w' [])=mm (fun l=>Except.ok l):=by rw[<-hd]
    rw[sD,OW]at ih
    unfold qk
    rw[k1,zW (by decide),zX rfl,k2,UW.1]
    simp only
    rw[k3,hw]
    exact ih
termination_by t=>t.length
theorem P4{q z:Int}{ao:List (Int×Int)}(hq:0<q):iu (gF q ao).qs ⟨bs [113],z⟩=z:=by
 unfold iu gF
 rw[zX hq]
 simp[dC]
theorem K5{q:Int}{o:bq}{ao:List (Int×Int)}(hq:o.aD≠[]->0<q):(cS o).map (iu (gF q ao).qs)=o.aD:=by
 by_cases h:o.aD=[]
 ·unfold cS;rw[h];rfl
 ·unfold cS
  rw[List.map_map]
  have:(iu (gF q ao).qs ∘ fun z=>⟨bs [113],z⟩)=id:=by funext z;exact P4 (hq h)
  rw[this,List.map_id]
theorem Cv{x:Int}:∀{L:List (Nat×(Int×Int))}{a b:Int},fi (L.map (·.2)) a b->a<=x->x<b->∃y∈L,y.2.1<=x/\x<y.2.1+y.2.2/\dL x L=[⟨bs (cB y.1),x-y.2.1⟩]
 |[],a,b,h,h1,h2=>by have h:a=b:=h;omega
 |y::L,a,b,h,h1,h2=>by
  have h:y.2.1=a/\1<=y.2.2/\fi (L.map (·.2)) (a+y.2.2) b:=h
  obtain⟨e,e1,hc⟩:=h
  by_cases hx:x<a+y.2.2
  ·refine⟨y,by simp,by omega,by omega,?_⟩
   have:=(zb (x:=x) hc (by omega)).1
   unfold dL at this ⊢
   rw[List.flatMap_cons,this,zX (by omega),List.append_nil]
  ·obtain⟨z,hz,z1,z2,z3⟩:=Cv hc (by omega) h2
   refine⟨z,by simp[hz],z1,z2,?_⟩
   unfold dL at z3 ⊢
   rw[List.flatMap_cons,z3,zW (by omega),List.nil_append]
structure O5 (q b:Int) (o:bq):Prop where
 k:o.kind=1\/o.kind=2\/o.kind=3
 nm:o.kind≠1->o.name=ByteArray.empty
 bt:o.kind≠2->o.bit=0
 q:o.aD≠[]->0<q
 m:o.kind=2->(0<=o.bit/\o.bit<b)/\∃q0,o.aD=[q0]
theorem R_{L:List Row}{q b:Int}{o:bq}{ao:List (Int×Int)}{pl:Int}{l:OL}(h:O5 q b o)(hr:ao.length<=64)(hc:fi ao 0 b)(hl:l.length<4096) :
  qk (gF q ao) L ⟨o.cond,o.cR,o.value⟩ { cp o ao with place:=pl } [] l=.ok (l++[(o,pl)]):=by
 have put:∀o':bq,o'=o->jX l o' pl=.ok (l++[(o,pl)]):=fun o' e=>by
  subst e;unfold jX;rw[zW (by omega)]
 have LK:fi ((du ao).map (·.2)) 0 b:=by rw[qS];exact hc
 unfold qk
 rcases h.k with k |k |k
 ·have e:cp o ao=⟨bw,o.name,cS o,0,0,0⟩:=by unfold cp;rw[zW (by omega),zW (by omega)]
  rw[e]
  simp only
  rw[zW (by decide),zW (by decide),zX trivial]
  unfold iY
  have hd:uI (gF q ao).ds o.name=none:=rfl
  rw[hd]
  simp only
  rw[K5 h.q]
  refine put _ ?_
  unfold ko
  rw[<-h.bt (by omega),<-k]
 ·have e:cp o ao=⟨aQ,ByteArray.empty,cS o++dL o.bit (du ao),0,0,0⟩:=by unfold cp;rw[zX k]
  obtain⟨hb,q0,Fw⟩:=h.m k
  obtain⟨y,hy,y1,y2,y3⟩:=Cv LK hb.1 hb.2
  rw[e,y3]
  have oL:cS o=[⟨bs [113],q0⟩]:=by unfold cS;rw[Fw];rfl
  simp only
  rw[zW (by decide),zW (by decide),zW (by decide),zX trivial,oL]
  simp only[List.cons_append,List.nil_append]
  have hq:0<q:=h.q (by rw[Fw];simp)
  have e2:iu (gF q ao).bs ⟨bs (cB y.1),o.bit-y.2.1⟩=o.bit:=by
   unfold iu
   rw[xJ hr hy]
   simp only
   omega
  rw[P4 hq,e2]
  refine put _ ?_
  unfold ko
  rw[<-h.nm (by omega),<-Fw,<-k]
 ·have e:cp o ao=⟨bB,ByteArray.empty,cS o,0,0,0⟩:=by unfold cp;rw[zW (by omega),zX k]
  rw[e]
  simp only
  rw[zW (by decide),zW (by decide),zW (by decide),zW (by decide),zX trivial,K5 h.q]
  refine put _ ?_
  unfold ko
  rw[<-h.nm (by omega),<-h.bt (by omega),<-k]
end
section
open Go.Ab
structure OpF (q b:Int) (ao:List (Int×Int)) (o:bq):Prop where
 one:O5 q b o
 c:∃m v,u7 b o m v
 Vf:∀g∈ao,JP o g
theorem Ca{rs:List Row}{a b:List Row}(h:rs.map er=a++b):∃x y,rs=x++y/\x.map er=a/\y.map er=b:=by
 obtain⟨x,y,e,h1,h2⟩:=List.map_eq_append_iff.1 h
 exact⟨x,y,e,h1,h2⟩
theorem yh{o:bq}{ao:List (Int×Int)}:(cp o ao).rows=0:=by
 unfold cp;split
 ·rfl
 ·split<;>rfl
theorem Mi{L:List Row}{q b:Int}{ao:List (Int×Int)}(hb:b<=64)(hr:ao.length<=64)(hc:fi ao 0 b) :
  ∀{ops:List bq}{A rs:List Row}{l:OL},(∀o∈ops,OpF q b ao o)->gQ ao ops=some A->rs.map er=A->l.length+ops.length<=4096->∃l',fY (gF q ao) L ⟨false,0,0⟩ rs l=.ok (l++l')/\l'.map (·.1)=ops
 |[],A,rs,l,_,hA,da,_=>by
  simp only[gQ,zQ]at hA
  subst hA
  have:rs=[]:=List.map_eq_nil_iff.1 da
  subst this
  exact⟨[],by rw[qW,List.append_nil],rfl⟩
 |o::ops,A,rs,l,ho,hA,da,hl=>by
  simp only[gQ]at hA
  by_cases c:32<(dA o (du ao)).length
  ·rw[zX c]at hA;cases hA
  rw[zW c]at hA
  obtain⟨B,hB,rfl⟩:=Option.map_eq_some_iff.1 hA
  obtain⟨x,y,rfl,hx,hy⟩:=Ca da
  have h:=ho o (by simp)
  obtain⟨m,v,hm⟩:=h.c
  simp only[List.length_cons]at hl
  have LK:fi ((du ao).map (·.2)) ((0:Nat):Int) b:=by rw[qS];exact hc
  obtain⟨pl,hd⟩:=Gg (bk:=gF q ao) (L:=L) (w:=⟨false,0,0⟩) (M:=0) (V:=0) hm hb (yh (ao:=ao)) (du ao) x y l (fun z hz=>⟨xJ hr hz,h.Vf _ (qT hz).2⟩) LK ⟨rfl,rfl,fun i=>by simp,fun i=>by simp,by omega,by omega,rfl⟩ hx
  rw[R_ h.one hr hc (by omega)]at hd
  obtain⟨l',h1,h2⟩:=Mi hb hr hc (ops:=ops) (A:=B) (rs:=y) (l:=l++[(o,pl)]) (fun z hz=>ho z (by simp[hz])) hB hy (by simp;omega)
  refine⟨(o,pl)::l',?_,by simp[h2]⟩
  rw[hd]
  show fY (gF q ao) L ⟨false,0,0⟩ y (l++[(o,pl)])=_
  rw[h1,List.append_assoc];rfl
def GR(r:Row):Prop:=(r.kind=aS\/r.kind=bz)/\r.rows=0
theorem Sp{q:Int}{ao:List (Int×Int)}:∀r∈iO q ao,GR r:=by
 intro r h
 unfold iO at h
 rcases List.mem_append.1 h with h |h
 ·split at h
  ·simp only[List.mem_singleton]at h;subst h;exact⟨.inl rfl,rfl⟩
  ·cases h
 ·simp only[List.mem_map]at h
  obtain⟨y,_,rfl⟩:=h
  exact⟨.inr rfl,rfl⟩
theorem XQ{rs H:List Row}(h:rs.map er=H)(hH:∀r∈H,GR r):∀r∈rs,GR r:=by
 intro r hr
 have h1:er r∈H:=by rw[<-h];exact List.mem_map_of_mem hr
 obtain⟨a,b⟩:=hH (er r) h1
 exact⟨a,b⟩
theorem Ib{bk:Bk}{L:List Row}{w:iE}:∀{rs more:List Row}{l:OL},(∀r∈rs,GR r)->fY bk L w (rs++more) l=fY bk L w more l
 |[],_,_,_=>rfl
 |r::rs,more,l,h=>by
  obtain⟨k,h0⟩:=h r (by simp)
  rw[List.cons_append,pt,h0]
  have e:qk bk L w r ((rs++more).take (0:Int).toNat) l=.ok l:=by
   unfold qk
   rcases k with k |k<;>rw[k,zW (by decide),zW (by decide),zW (by decide),zW (by decide),zW (by decide)]
  rw[e]
  show fY bk L w (rs++more) l=_
  exact Ib fun z hz=>h z (by simp[hz])
end
section
open Go.Ab
theorem Ad{deep i:Nat}{r:Row}{rest:List Row}{bk b9:Bk}(hf:im r rest.length deep false=0)(hr:fQ bk none i r=.ok b9)(h0:r.rows=0)(hg:r.kind≠aN):dN deep none i (r::rest) bk=dN deep none (i+1) rest b9:=by
 rw[kQ,zW (by simp[hf]),hr]
 simp only[h0,zW hg]
 have e1:rest.take (0:Int).toNat=[]:=rfl
 have e2:rest.drop (0:Int).toNat=rest:=rfl
 rw[e1,e2,jP]
 rfl
theorem L7{r:Row}{behind:Int}{deep:Nat}(hk:r.kind=bw\/r.kind=aQ\/r.kind=bB)(h0:r.rows=0)(hb:0<=behind)(hd:deep<=32):im r behind deep false=0:=by
 have k1:mQ r.kind=true:=by rcases hk with k |k |k<;>rw[k]<;>decide
 have k2:ml r.kind=false:=by rcases hk with k |k |k<;>rw[k]<;>decide
 have k3:qN r.kind=false:=by rcases hk with k |k |k<;>rw[k]<;>decide
 unfold im
 rw[k1,k2,k3,h0]
 have:¬behind<0:=by omega
 have h3:¬(32:Int)<deep:=by omega
 simp[this,h3]
theorem Sv{r:Row}{behind:Int}{deep:Nat}(hk:r.kind=cz)(h0:0<=r.rows)(hb:r.rows<=behind)(hd:deep<=32):im r behind deep false=0:=by
 have k1:mQ r.kind=true:=by rw[hk];decide
 have k2:ml r.kind=true:=by rw[hk];decide
 have k3:qN r.kind=false:=by rw[hk];decide
 unfold im
 rw[k1,k2,k3]
 have h1:¬behind<r.rows:=by omega
 have h2:¬r.rows<0:=by omega
 have h3:¬(32:Int)<deep:=by omega
 simp[h1,h2,h3]
theorem DD{r:Row}{behind:Int}(h:GR r)(hb:0<=behind):im r behind 0 false=0:=by
 have k1:mQ r.kind=true:=by rcases h.1 with k |k<;>rw[k]<;>decide
 have k2:ml r.kind=false:=by rcases h.1 with k |k<;>rw[k]<;>decide
 unfold im
 rw[k1,k2,h.2]
 have:¬behind<0:=by omega
 simp[this]
theorem Ae{bk:Bk}{o:bq}{r0:Row}(h0:r0.rows=0)(hk:r0.kind=bw\/r0.kind=aQ\/r0.kind=bB)(mU:∀(j:Nat) pl,fQ bk none j { r0 with place:=pl }=.ok bk) :
  ∀(t:List (Nat×(Int×Int))){deep i:Nat}(rs more:List Row),(∀y∈t,sx bk (sw o y)=.ok bk)->deep+(dA o t).length<=32->rs.map er=jZ (dA o t)++[r0] ->
  ∃i',dN deep none i (rs++more) bk=dN deep none i' more bk
 |[],deep,i,rs,more,_,hd,da=>by
  have da:rs.map er=[r0]:=da
  have hd:deep+0<=32:=hd
  match rs,da with
  |[r],da=>
   simp only[List.map_cons,List.map_nil,List.cons.injEq,zI]at da
   obtain⟨k,_,_,_,hr,e⟩:=w7 da
   refine⟨i+1,?_⟩
   have pX:r.kind=bw\/r.kind=aQ\/r.kind=bB:=by rw[k];exact hk
   rw[List.cons_append,List.nil_append]
   exact Ad (L7 pX (by rw[hr,h0]) (by omega) (by omega)) (by rw[e];exact mU _ _) (by rw[hr,h0]) (by rcases pX with k |k |k<;>rw[k]<;>decide)
 |y::t,deep,i,rs,more,hy,hd,da=>by
  have Ln:∀z∈t,sx bk (sw o z)=.ok bk:=fun z hz=>hy z (by simp[hz])
  cases hp:jF o.cR y.2.1==1 with
  |false=>
   have sC:dA o (y::t)=dA o t:=by unfold dA;rw[List.filter_cons,hp];rfl
   rw[sC]at da hd
   exact Ae h0 hk mU t rs more Ln hd da
  |true=>
   have sC:dA o (y::t)=sw o y::dA o t:=by unfold dA;rw[List.filter_cons,hp];rfl
   rw[sC,List.length_cons]at hd
   rw[sC,CY,List.cons_append]at da
   match rs,da with
   |r::rs,da=>
    simp only[List.map_cons,List.cons.injEq]at da
    obtain⟨k1,k2,k3,k4⟩:=Lm da.1
    have hlen:rs.length=(dA o t).length+1:=by
     have:=congrArg List.length da.2
     simpa[pd] using this
    have hn:r.rows.toNat=rs.length:=by rw[k4,hlen];omega
    have abK:sx bk r=.ok bk:=by
     have:=hy y (by simp)
     unfold sx at this ⊢
     rw[k2,k3];exact this
    obtain⟨i',ih⟩:=Ae h0 hk mU t (deep:=deep+1) (i:=i+1) rs [] Ln (by omega) da.2
    rw[List.append_nil,jP]at ih
    refine⟨i+1+r.rows.toNat,?_⟩
    have kR:fQ bk none i r=.ok bk:=by
     unfold fQ
     rw[k1,zW (by decide),zW (by decide),zW (by decide),zW (by decide),zX rfl]
     exact abK
    have XO:im r ((rs++more).length:Nat) deep (none:Option Nat).isSome=0:=Sv k1 (by rw[k4];omega) (by rw[k4,List.length_append,hlen];omega) (by omega)
    rw[List.cons_append,kQ,zW (by rw[XO];simp),kR]
    simp only
    rw[hn,List.drop_left,List.take_left,zW (by rw[k1];decide),ih]
    simp only
    rw[zW (by rw[k1];decide)]
termination_by t=>t.length
theorem Fc{bk:Bk}{ao:List (Int×Int)}:∀{ops:List bq}{A rs:List Row}{i:Nat},(∀o∈ops,(∀y∈du ao,sx bk (sw o y)=.ok bk)/\((cp o ao).kind=bw\/(cp o ao).kind=aQ\/(cp o ao).kind=bB)/\∀(j:Nat) pl,fQ bk none j { cp o ao with place:=pl }=.ok bk) ->
  gQ ao ops=some A->rs.map er=A->dN 0 none i rs bk=.ok bk
 |[],A,rs,i,_,hA,da=>by
  simp only[gQ,zQ]at hA
  subst hA
  have:rs=[]:=List.map_eq_nil_iff.1 da
  subst this
  rw[jP]
 |o::ops,A,rs,i,ho,hA,da=>by
  simp only[gQ]at hA
  by_cases c:32<(dA o (du ao)).length
  ·rw[zX c]at hA;cases hA
  rw[zW c]at hA
  obtain⟨B,hB,rfl⟩:=Option.map_eq_some_iff.1 hA
  obtain⟨x,y,rfl,hx,hy⟩:=Ca da
  obtain⟨h1,h2,h3⟩:=ho o (by simp)
  obtain⟨i',hl⟩:=Ae (i:=i) (deep:=0) yh h2 h3 (du ao) x y h1 (by omega) hx
  rw[hl]
  exact Fc (fun z hz=>ho z (by simp[hz])) hB hy
end
section
open Go.Ab
theorem SU(k:Nat):dE (bs (cB k))=0:=by
 unfold dE
 have key:∀x∈kB,(match x.1.data.toList with |a::d::_=>!(a==99&&decide (48<=d.toNat)&&decide (d.toNat<=57)) |_=>true)=true:=by decide +kernel
 have hn:kB.find? (fun x=>decide (x.1=bs (cB k)))=none:=by
  rw[List.find?_eq_none]
  intro x hx
  simp only[decide_eq_true_eq]
  intro e
  have h:=key x hx
  rw[e]at h
  have e2:(bs (cB k)).data.toList=99::Lib.decDigits k:=by simp[bs,cB]
  rw[e2]at h
  have hd:=uK (k+1) k (by omega)
  cases hc:Lib.decDigits k with
  |nil=>exact absurd hc (Mn k)
  |cons c w=>
   rw[hc]at h hd
   have:=hd c (by simp)
   unfold isDigit at this
   simp only[yC,decide_eq_true_eq]at this
   simp at h
   omega
 rw[hn]
theorem SR:dE (bs [113])=0:=by decide +kernel
theorem TU{k:Nat}:bs [113]≠bs (cB k):=fun e=>by
 have:=Gs e
 unfold cB at this
 simp at this
theorem Ct:∀{l:List (Int×Int)}{a b:Int},fi l a b->(l.map (·.2)).sum=b-a
 |[],a,b,h=>by have h:a=b:=h;simp;omega
 |g::l,a,b,h=>by
  have h:g.1=a/\1<=g.2/\fi l (a+g.2) b:=h
  have:=Ct h.2.2
  simp only[List.map_cons,List.sum_cons];omega
def oX(y:Nat×(Int×Int)):fJ:=⟨bs (cB y.1),y.2.1,y.2.2⟩
theorem wC{qs:List fJ}{b:Int}(Zg:∀r∈qs,r.name=bs [113])(hb:b<=64) :
  ∀{t done:List (Nat×(Int×Int))}{p:Int}{rs more:List Row}{i:Nat},fi (done.map (·.2)) 0 p->fi (t.map (·.2)) p b->(∀(j:Nat) z,(done++t)[j]?=some z->z.1=j)->(done++t).length<=64->rs.map er=t.map Cw->∃i',dN 0 none i (rs++more) ⟨qs,done.map oX,[]⟩=dN 0 none i' more ⟨qs,(done++t).map oX,[]⟩
 |[],done,p,rs,more,i,_,_,_,_,da=>by
  have:rs=[]:=List.map_eq_nil_iff.1 da
  subst this
  exact⟨i,by simp⟩
 |y::t,done,p,rs,more,i,hd,ht,Dn,hl,da=>by
  match rs,da with
  |r::rs,da=>
   simp only[List.map_cons,List.cons.injEq]at da
   obtain⟨k1,k2,k3,k4,k5,_⟩:=w7 da.1
   have ht:y.2.1=p/\1<=y.2.2/\fi (t.map (·.2)) (p+y.2.2) b:=ht
   have hle:=fi.le ht.2.2
   have hyi:y.1=done.length:=Dn done.length y (by simp)
   have hdi:∀z∈done,z.1<done.length:=fun z hz=>by
    obtain⟨j,hj⟩:=List.mem_iff_getElem?.1 hz
    have rE:=(zM.1 hj).1
    have:=Dn j z (by rw[List.getElem?_append_left rE];exact hj)
    omega
   simp only[List.length_append,List.length_cons]at hl
   have aaP:aU (done.map oX)=p:=by
    have:=Ct hd
    unfold aU
    rw[List.map_map]
    have e:(fun r:fJ=>r.size) ∘ oX=fun y=>y.2.2:=rfl
    rw[List.map_map]at this
    have e2:(fun g:Int×Int=>g.2) ∘ (fun y:Nat×(Int×Int)=>y.2)=fun y=>y.2.2:=rfl
    rw[e2]at this
    rw[e,this];omega
   have free:gV ⟨qs,done.map oX,[]⟩ (bs (cB y.1))=false:=by
    unfold gV
    have h1:dC qs (bs (cB y.1))=none:=by
     unfold dC
     rw[List.find?_eq_none]
     intro r hr
     simp only[decide_eq_true_eq]
     rw[Zg r hr]
     exact TU
    have h2:dC (done.map oX) (bs (cB y.1))=none:=by
     unfold dC
     rw[List.find?_eq_none]
     intro r hr
     obtain⟨z,hz,rfl⟩:=List.mem_map.1 hr
     simp only[decide_eq_true_eq]
     intro e
     have hzl:=hdi z hz
     have:=DU (by omega) (by omega) (Gs (show bs (cB z.1)=bs (cB y.1) from e))
     omega
    simp only[h1,h2,SU]
    rfl
   have kR:fQ ⟨qs,done.map oX,[]⟩ none i r=.ok ⟨qs,(done++[y]).map oX,[]⟩:=by
    unfold fQ
    have k1:r.kind=bz:=k1
    rw[k1,zW (by decide),zX rfl]
    unfold f_
    have k2:r.name=bs (cB y.1):=k2
    have k4:r.num=y.2.2:=k4
    rw[k2,free,zW (by decide),k4,zW (by omega),aaP,zW (by omega)]
    rw[List.map_append]
    show Except.ok (⟨qs,done.map oX++[⟨bs (cB y.1),p,y.2.2⟩],[]⟩:Bk)=_
    congr 2
    show done.map oX++[(⟨bs (cB y.1),p,y.2.2⟩:fJ)]=done.map oX++[oX y]
    unfold oX;rw[ht.1]
   have hH:GR r:=⟨.inr k1,k5⟩
   have e:done++y::t=(done++[y])++t:=by simp
   have sD:fi ((done++[y]).map (·.2)) 0 (p+y.2.2):=by
    rw[List.map_append]
    exact fi.dY hd ⟨ht.1,ht.2.1,rfl⟩
   obtain⟨i',ih⟩:=wC Zg hb (t:=t) (done:=done++[y]) (i:=i+1) (rs:=rs) (more:=more) sD ht.2.2 (by rw[<-e];exact Dn) (by rw[<-e];simp;omega) da.2
   refine⟨i',?_⟩
   rw[e,List.cons_append,Ad (DD hH (by omega)) kR hH.2 (by rw[show r.kind=bz from k1];decide)]
   exact ih
theorem K4{q b:Int}{ao:List (Int×Int)}{rs more:List Row}(hq:0<=q/\q<=64)(hb:b<=64)(hc:fi ao 0 b)(hr:ao.length<=64)(h:rs.map er=iO q ao) :
  ∃i',dN 0 none 0 (rs++more) ⟨[],[],[]⟩=dN 0 none i' more (gF q ao):=by
 have Dn:∀(j:Nat) z,([]++du ao)[j]?=some z->z.1=j:=fun j z hz=>by
  rw[List.nil_append,nz]at hz
  obtain⟨_,_,rfl⟩:=Option.map_eq_some_iff.1 hz
  rfl
 unfold iO at h
 by_cases h0:0<q
 ·rw[zX h0]at h
  match rs,h with
  |r::rs,h=>
   rw[List.map_cons,List.cons_append,List.nil_append,List.cons.injEq]at h
   obtain⟨k1,k2,k3,k4,k5,_⟩:=w7 h.1
   have k1:r.kind=aS:=k1
   have k2:r.name=bs [113]:=k2
   have k4:r.num=q:=k4
   have kR:fQ ⟨[],[],[]⟩ none 0 r=.ok ⟨[⟨bs [113],0,q⟩],[],[]⟩:=by
    unfold fQ
    rw[k1,zX rfl]
    unfold f_
    have free:gV ⟨[],[],[]⟩ (bs [113])=false:=by
     unfold gV
     simp only[SR]
     rfl
    rw[k2,free,zW (by decide),k4,zW (by omega)]
    have:aU []=0:=rfl
    rw[this,zW (by omega)]
    rfl
   have hH:GR r:=⟨.inl k1,k5⟩
   obtain⟨i',ih⟩:=wC (qs:=[⟨bs [113],0,q⟩]) (by simp) hb (t:=du ao) (done:=[]) (p:=0) (i:=0+1) (rs:=rs) (more:=more) rfl (by rw[qS];exact hc) Dn (by simpa[ny] using hr) h.2
   refine⟨i',?_⟩
   rw[List.cons_append,Ad (DD hH (by omega)) kR hH.2 (by rw[k1];decide)]
   rw[List.map_nil]at ih
   rw[ih]
   unfold gF
   rw[zX h0];rfl
 ·rw[zW h0,List.nil_append]at h
  obtain⟨i',ih⟩:=wC (qs:=[]) (by simp) hb (t:=du ao) (done:=[]) (p:=0) (i:=0) (rs:=rs) (more:=more) rfl (by rw[qS];exact hc) Dn (by simpa[ny] using hr) h
  refine⟨i',?_⟩
  rw[List.map_nil]at ih
  rw[ih]
  unfold gF
  rw[zW h0];rfl
end
section
open Go.Ab
structure jV (q b:Int) (o:bq):Prop where
 bad:pK b o=false
 nm:kE o=false
 ar:o.kind=1->dE o.name≠0
 len:(o.aD.length:Int)=tz o
 out:qj q o.aD=false
 bit:o.kind=2->0<=o.bit/\o.bit<b
 dup:pr o.aD=false
theorem Ma{q b:Int}{o:bq}(h:iX q b o=0):jV q b o:=by
 unfold iX at h
 by_cases c1:pK b o=true
 ·rw[zX c1]at h;exact absurd h (by decide)
 rw[zW c1]at h
 by_cases c2:kE o=true
 ·rw[zX c2]at h;exact absurd h (by decide)
 rw[zW c2]at h
 by_cases c3:o.kind=1/\dE o.name=0
 ·rw[zX c3]at h;exact absurd h (by decide)
 rw[zW c3]at h
 by_cases c4:(o.aD.length:Int)≠tz o
 ·rw[zX c4]at h;exact absurd h (by decide)
 rw[zW c4]at h
 by_cases c5:qj q o.aD=true
 ·rw[zX c5]at h;exact absurd h (by decide)
 rw[zW c5]at h
 by_cases c6:o.kind=2/\(o.bit<0\/b<=o.bit)
 ·rw[zX c6]at h;exact absurd h (by decide)
 rw[zW c6]at h
 by_cases c7:pr o.aD=true
 ·rw[zX c7]at h;exact absurd h (by decide)
 refine⟨by simpa using c1,by simpa using c2,fun k e=>c3 ⟨k,e⟩,by omega,by simpa using c5,fun k=>?_,by simpa using c7⟩
 have:¬(o.bit<0\/b<=o.bit):=fun e=>c6 ⟨k,e⟩
 omega
theorem za{q b:Int}:∀{l:List bq}{i:Nat}{n:Int},(gI q b l i n).2=0->∀o∈l,jV q b o
 |[],_,_,_,o,ho=>by cases ho
 |y::l,i,n,h,o,ho=>by
  unfold gI at h
  by_cases c1:iX q b y≠0
  ·rw[zX c1]at h;exact absurd h c1
  rw[zW c1]at h
  by_cases c2:36<n+ji y
  ·rw[zX c2]at h;exact absurd (show(116:Int)=0 from h) (by decide)
  rw[zW c2]at h
  rcases List.mem_cons.1 ho with e |ho
  ·subst e;exact Ma (Classical.not_not.1 c1)
  ·exact za h o ho
section
variable {q b:Int} {o:bq} {ao:List (Int×Int)}
theorem jV.kind(h:jV q b o):o.kind=1\/o.kind=2\/o.kind=3:=by
 have:=h.bad
 unfold pK at this
 simp only[Bool.or_eq_false_iff]at this
 have h1:=this.1.1.1.1
 have h2:¬o.kind=1->¬o.kind=2->o.kind=3:=by simpa using h1
 omega
theorem jV.q0(h:jV q b o):o.aD≠[]->0<q:=fun b7=>by
 have:=h.out
 cases hq:o.aD with
 |nil=>exact absurd hq b7
 |cons z l=>
  rw[hq]at this
  unfold qj at this
  simp only[List.any_cons,Bool.or_eq_false_iff,decide_eq_false_iff_not]at this
  omega
theorem jV.one(h:jV q b o):O5 q b o:=by
 have hn:=h.nm
 unfold kE at hn
 simp only[Bool.or_eq_false_iff,Bool.and_eq_false_iff]at hn
 refine⟨h.kind,fun k=>?_,fun k=>?_,h.q0,fun k=>⟨h.bit k,?_⟩⟩
 ·rcases hn.1 with h1 |h1
  ·exact absurd (by simpa using h1) k
  ·simpa using h1
 ·rcases hn.2 with h1 |h1
  ·exact absurd (by simpa using h1) k
  ·simpa using h1
 ·have hl:=h.len
  unfold tz at hl
  rw[zW (by omega)]at hl
  match hq:o.aD with
  |[]=>rw[hq]at hl;simp at hl
  |[q0]=>exact⟨q0,rfl⟩
  |_::_::_=>rw[hq]at hl;simp at hl;omega
theorem OY(hq:0<q){z:Int}(h0:0<=z)(h1:z<q):ij (gF q ao).qs ⟨bs [113],z⟩=0:=by
 unfold ij gF
 rw[zX hq]
 have:¬(z<0\/q<=z):=by omega
 simp[dC,this]
theorem acy(hr:ao.length<=64){y:Nat×(Int×Int)}(hy:y∈du ao){x:Int}(h0:y.2.1<=x)(h1:x<y.2.1+y.2.2):ij (gF q ao).bs ⟨bs (cB y.1),x-y.2.1⟩=0:=by
 unfold ij
 rw[xJ hr hy]
 have:¬(x-y.2.1<0\/y.2.2<=x-y.2.1):=by omega
 simp only[this,if_false]
theorem jV.UK(h:jV q b o):∀z∈o.aD,0<=z/\z<q:=fun z hz=>by
 have:=h.out
 unfold qj at this
 rw[List.any_eq_false]at this
 have:=this z hz
 simp only[Bool.or_eq_true,decide_eq_true_eq,not_or]at this
 omega
theorem H5(h:jV q b o):∀{l:List Int},(∀z∈l,z∈o.aD)->ft (fG (gF q ao) none) (l.map fun z=>⟨bs [113],z⟩)=0
 |[],_=>rfl
 |z::l,hl=>by
  have hz:=hl z (by simp)
  have hb:=h.UK z hz
  have e:fG (gF q ao) none ⟨bs [113],z⟩=0:=OY (h.q0 fun e=>by rw[e]at hz;cases hz) hb.1 hb.2
  rw[List.map_cons,ft,e,zW (by simp)]
  exact H5 h fun w hw=>hl w (by simp[hw])
theorem X3(h:pr o.aD=false):w_ (cS o)=false:=by
 unfold w_
 refine Cq fun i a hi=>?_
 unfold cS at hi ⊢
 rw[List.map_map]at hi ⊢
 rw[List.getElem?_map]at hi
 obtain⟨z,hz,rfl⟩:=Option.map_eq_some_iff.1 hi
 obtain⟨FF,he⟩:=zM.1 hz
 have hm:gB z (o.aD.take i)=false:=by
  unfold pr at h
  rw[List.any_eq_false]at h
  have:=h i (List.mem_range.2 FF)
  rw[List.getD_eq_getElem?_getD,hz]at this
  simpa using this
 cases hx:gB ((fZ ∘ fun q=>⟨bs [113],q⟩) z) ((o.aD.map (fZ ∘ fun q=>⟨bs [113],q⟩)).take i) with
 |false=>rfl
 |true=>
  exfalso
  unfold gB at hx hm
  cases hj:jc ((fZ ∘ fun q=>⟨bs [113],q⟩) z) ((o.aD.map (fZ ∘ fun q=>⟨bs [113],q⟩)).take i) 0 with
  |none=>rw[hj]at hx;cases hx
  |some j=>
   have h1:=(Dd hj).2
   rw[<-List.map_take]at h1
   obtain⟨w,hw,e⟩:=List.mem_map.1 h1
   have e2:w=z:=by
    have:(bs [113],w)=(bs [113],z):=e
    exact(Prod.mk.inj this).2
   subst e2
   cases Dm:jc w (o.aD.take i) 0 with
   |none=>exact(De Dm) hw
   |some _=>rw[Dm]at hm;cases hm
theorem jV.row(h:jV q b o)(hr:ao.length<=64)(hc:fi ao 0 b):((cp o ao).kind=bw\/(cp o ao).kind=aQ\/(cp o ao).kind=bB)/\∀(j:Nat) pl,fQ (gF q ao) none j { cp o ao with place:=pl }=.ok (gF q ao):=by
 have LK:fi ((du ao).map (·.2)) 0 b:=by rw[qS];exact hc
 rcases h.kind with k |k |k
 ·have e:cp o ao=⟨bw,o.name,cS o,0,0,0⟩:=by unfold cp;rw[zW (by omega),zW (by omega)]
  rw[e]
  refine⟨.inl rfl,fun j pl=>?_⟩
  unfold fQ
  simp only
  rw[zW (by decide),zW (by decide),zW (by decide),zW (by decide),zW (by decide),zX trivial]
  unfold lG
  have hw:l7 (gF q ao) o.name=(dE o.name,0):=rfl
  have lQ:pH (gF q ao) none o.name=false:=rfl
  have hl:=h.len
  unfold tz at hl
  rw[zX k]at hl
  have oK:((cS o).length:Int)=dE o.name:=by rw[<-hl];simp[cS]
  have hfe:ft (fG (gF q ao) (jY (gF q ao) none)) (cS o)=0:=H5 h fun z hz=>hz
  simp only
  rw[lQ,zW (by decide),hw,zW (h.ar k),zW (by simp[oK]),zW (by simp[hfe]),X3 h.dup,zW (by decide),zW (by simp)]
  rfl
 ·have e:cp o ao=⟨aQ,ByteArray.empty,cS o++dL o.bit (du ao),0,0,0⟩:=by unfold cp;rw[zX k]
  obtain⟨hb,q0,Fw⟩:=h.one.m k
  obtain⟨y,hy,y1,y2,y3⟩:=Cv LK hb.1 hb.2
  have oL:cS o=[⟨bs [113],q0⟩]:=by unfold cS;rw[Fw];rfl
  rw[e,y3,oL]
  refine⟨.inr (.inl rfl),fun j pl=>?_⟩
  unfold fQ
  simp only
  rw[zW (by decide),zW (by decide),zW (by decide),zW (by decide),zW (by decide),zW (by decide),zX trivial]
  have hz:=h.UK q0 (by rw[Fw];simp)
  have a1:ij (gF q ao).qs ⟨bs [113],q0⟩=0:=OY (h.q0 (by rw[Fw];simp)) hz.1 hz.2
  have a2:=acy (q:=q) hr hy y1 y2
  show na (gF q ao) [⟨bs [113],q0⟩,⟨bs (cB y.1),o.bit-y.2.1⟩]=_
  unfold na ot
  simp only[a1,a2]
  rw[zW (by simp),zW (by simp)]
 ·have e:cp o ao=⟨bB,ByteArray.empty,cS o,0,0,0⟩:=by unfold cp;rw[zW (by omega),zX k]
  have hl:=h.len
  unfold tz at hl
  rw[zW (by omega)]at hl
  obtain⟨z,hz⟩:∃z,o.aD=[z]:=by
   match hq:o.aD with
   |[]=>rw[hq]at hl;simp at hl
   |[q0]=>exact⟨q0,rfl⟩
   |_::_::_=>rw[hq]at hl;simp at hl;omega
  have oL:cS o=[⟨bs [113],z⟩]:=by unfold cS;rw[hz];rfl
  rw[e,oL]
  refine⟨.inr (.inr rfl),fun j pl=>?_⟩
  unfold fQ
  simp only
  rw[zW (by decide),zW (by decide),zW (by decide),zW (by decide),zW (by decide),zW (by decide),zW (by decide),zX trivial]
  have hb:=h.UK z (by rw[hz];simp)
  have a1:ij (gF q ao).qs ⟨bs [113],z⟩=0:=OY (h.q0 (by rw[hz];simp)) hb.1 hb.2
  unfold re ot
  simp only[a1]
  rw[zW (by simp)]
theorem Xz{m v:Nat}(c:u7 b o m v)(hr:ao.length<=64)(hc:fi ao 0 b)(hb:b<=64)(hg:∀g∈ao,1<=g.2/\g.2<=32):∀y∈du ao,sx (gF q ao) (sw o y)=.ok (gF q ao):=fun y hy=>by
 have h1:=hg _ (qT hy).2
 have h2:=Gj hc _ (qT hy).2
 obtain⟨f,hf⟩:∃n:Nat,y.2.1=n:=⟨y.2.1.toNat,by omega⟩
 obtain⟨s,hs⟩:∃n:Nat,y.2.2=n:=⟨y.2.2.toNat,by omega⟩
 have hn:=Qf (y:=y) c.vE c.vL hf hs (by omega) (by omega)
 unfold sx
 show(match dC (gF q ao).bs (bs (cB y.1)) with |none=>_ |some c=>_)=_
 rw[xJ hr hy]
 simp only
 have aJ:=Nat.mod_lt (v/2^f) (Nat.two_pow_pos s)
 rw[hn,hs,zY,ri,zW (by omega)]
end
theorem L9{q b:Int}{ops:List bq}{R rs:List Row}(hm:∀o∈ops,zc o)(hk:(eR q b ops).2=0)(hR:nS q b ops=some R)(da:rs.map er=R):ef rs=⟨q,b,ops,0,0⟩:=by
 obtain⟨hb,hq,hl,ho⟩:=Gn hk
 have hf:∀o∈ops,jV q b o:=by
  have h:=hk
  unfold eR at h
  rw[zW (by omega),zW (by omega)]at h
  exact za h
 have rg:=Ap (ops:=ops) hb
 have Vf:∀o∈ops,∀g∈b5 ops b.toNat,JP o g:=fun o wN g hg=>⟨(pz ops _ g hg).1,(pz ops _ g hg).2,DP wN _ g hg⟩
 have gO:∀g∈b5 ops b.toNat,1<=g.2/\g.2<=32:=fun g hg=>pz ops _ g hg
 have Ee:∀o∈ops,∃m v,u7 b o m v:=fun o wN=>SL hb (hm o wN) (hf o wN).bad
 unfold nS at hR
 obtain⟨A,hA,rfl⟩:=Option.map_eq_some_iff.1 hR
 generalize b5 ops b.toNat=ao at *
 obtain⟨x,y,rfl,hx,hy⟩:=Ca da
 obtain⟨i',h1⟩:=K4 (more:=y) hq hb.2 rg.Mp rg.len hx
 have h2:dN 0 none i' y (gF q ao)=.ok (gF q ao):=Fc (fun o wN=>by
  obtain⟨m,v,c⟩:=Ee o wN
  exact⟨Xz c rg.len rg.Mp hb.2 gO,(hf o wN).row rg.len rg.Mp⟩) hA hy
 have h3:fY (gF q ao) (x++y) ⟨false,0,0⟩ (x++y) []=fY (gF q ao) (x++y) ⟨false,0,0⟩ y []:=Ib (XQ hx Sp)
 obtain⟨l',h4,h5⟩:=Mi (L:=x++y) (l:=[]) hb.2 rg.len rg.Mp (fun o wN=>⟨(hf o wN).one,Ee o wN,Vf o wN⟩) hA hy (by simpa using hl)
 rw[List.nil_append]at h4
 have t1:aU (gF q ao).qs=q:=by
  unfold aU gF
  by_cases h0:0<q
  ·rw[zX h0];simp
  ·rw[zW h0];simp;omega
 have t2:aU (gF q ao).bs=b:=by
  have:=Ct rg.Mp
  unfold aU gF
  simp only
  rw[List.map_map]
  have e:(fun r:fJ=>r.size) ∘ (fun y:Nat×(Int×Int)=>(⟨bs (cB y.1),y.2.1,y.2.2⟩:fJ))=(fun g:Int×Int=>g.2) ∘ (fun y:Nat×(Int×Int)=>y.2):=rfl
  rw[e,<-List.map_map,qS,this];omega
 unfold ef
 rw[h1,h2]
 simp only
 rw[h3,h4]
 simp only
 rw[t1,t2,h5,zW (by simp[hk])]
end
end Go.Proofs.YtjehibknlmehmaaGreatDoor
