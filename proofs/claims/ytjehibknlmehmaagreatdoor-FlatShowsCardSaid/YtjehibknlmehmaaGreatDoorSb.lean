/- The text that parse.Show writes. No condition. -/
import Derived.Test.YtjehibknlmehmaaGreatDoorSa
set_option maxRecDepth 100000
namespace Go.Proofs.YtjehibknlmehmaaGreatDoor
section
open Go.Ab
attribute [-simp] aN aD
theorem SW.back{n0:Nat}{h h':AH}(hf:Fr h h' (SW n0 h)){id:Nat}(hs:SW n0 h' id):SW n0 h id\/h.next<=id:=by
 by_cases hl:id<h.next
 ·refine .inl (Classical.byContradiction fun hc=>hc ?_)
  obtain⟨h1,o,h2,h3⟩:=hs
  exact⟨h1,o,by rw[<-hf.dA id hl hc];exact h2,h3⟩
 ·exact .inr (by omega)
theorem SW.ty{n0:Nat}{h:AH}{id:Nat}{o:AO}(ho:h.obj id=some o)(h1:o.ty≠77)(h2:o.ty≠5):¬SW n0 h id:=by
 rintro⟨_,o',h3,_,h4⟩
 rw[ho]at h3;cases h3
 exact h4.elim h1 h2
theorem SW.ro{n0:Nat}{h:AH}{id:Nat}{o:AO}(ho:h.obj id=some o)(h1:o.ro=false->o.ty≠77/\o.ty≠5):¬SW n0 h id:=by
 rintro⟨_,o',h3,h5,h4⟩
 rw[ho]at h3;cases h3
 exact h4.elim (h1 h5).1 (h1 h5).2
def mZ(acc s:List UInt8):List UInt8:=if acc.length<=65536 then acc++s else acc
section
variable {h:AH} {M W:Nat->Prop} {R:AE->AH->Prop} {QR QN:VK} {QE:Nat->VK} {QP:AV->AH->Prop} {n0 w:Nat} {rv:AV} {acc:List UInt8}
theorem tJ{s:List UInt8}(hw:Wr n0 h w rv acc)(ha:acc.length<=100000000)(hs:s.length<=100000000)(hn:n0<=h.next)(hM:∀id,SW n0 h id->M id)
  (hR:∀h',Fr h h' (SW n0 h)->Wr n0 h' w rv (mZ acc s)->R (.ret (.cM [])) h'):ay Pg 52 [.ptr w 0,S s] h M R:=by
 apply L2.aI
 simp only[L2.n2,aT,al,zG]
 refine⟨fun _=>False,fun _ h=>h.elim,Kz hw ?_⟩
 unfold mZ at hR
 by_cases hl:acc.length<=65536
 ·rw[zX hl]at hR
  have dh:(acc.length:Int)<=65536:=by omega
  simp only[zb,L2.n1,zL dh,ao,zD,zF,zC,zI,aT,al,zG]
  refine⟨SW n0 h,fun id hs _=>.inl (hM id hs),QI hw (by rw[xR];omega) hn (fun _ h=>h) fun h' hf ji=>?_⟩
  exact hR h' hf ji
 ·rw[zW hl]at hR
  have dh:¬(acc.length:Int)<=65536:=by omega
  simp only[zb,L2.n1,zK dh,ao,zD,zE,zC,zH]
  exact hR h Fr.refl hw
theorem nN{acc s:List UInt8}(ha:acc.length<=90000000)(hs:s.length<=20000000):(mZ acc s).length<=90000000:=by
 unfold mZ;split
 ·simp only[List.length_append];omega
 ·omega
def nF(d:Nat):List UInt8:=Lib.repeatL [32,32] d
theorem uA(d:Nat):(nF d).length=d*2:=Lib.repeatL_length _ _
theorem CW{d:Nat}(hw:Wr n0 h w rv acc)(ha:acc.length<=90000000)(hd:d<=40)(hn:n0<=h.next)(hM:∀id,SW n0 h id->M id)
  (hR:∀h',Fr h h' (SW n0 h)->Wr n0 h' w rv (mZ acc (nF d))->R (.ret (.cM [])) h'):ay Pg 51 [.ptr w 0,I d] h M R:=by
 apply VN.aI
 simp only[VN.n1]
 refine⟨fun _=>False,fun _ h=>h.elim,JX (s:=bs [32,32]) (by omega) (by rw[xR];simp) ?_⟩
 refine⟨SW n0 h,fun id hs _=>.inl (hM id hs),tJ (s:=nF d) hw (by omega) (by rw[uA];omega) hn (fun _ h=>h) fun h' hf ji=>?_⟩
 exact hR h' hf ji
end
end
section
open Go.Ab
attribute [-simp] aN aD
def nc(g:Arg):ByteArray:=bs (qE g)
structure LI (n0:Nat) (h0 h:AH) (w:Nat) (rv:AV) (acc:List UInt8) (vr vs:Nat) (y:Row×AV) (sh:Shape) (x:AV) (ps:List ByteArray):Prop where
 fr:Fr h0 h (SW n0 h0)
 wr:Wr n0 h w rv acc
 ov:h.obj vr=some (aO (au y) 6 46)
 os:h.obj vs=some (aO sh.enc 4 107)
 ar:cf Arg.enc 2 67 h y.2 y.1.args
 tb:bw pe 1 9 h x ps
 fx:cz (h0.next<=·) x
 ht:cp 0 h
section
variable {h0 h h':AH} {n0 w:Nat} {rv:AV} {acc:List UInt8} {vr vs:Nat} {y:Row×AV} {sh:Shape} {x:AV} {ps:List ByteArray}
theorem _root_.Go.Ab.cp.bp{g:Nat}{h h':AH}(ht:cp g h)(hf:Fr h h' fun _=>False):cp g h':=cp.fr ht hf fun h=>h
theorem _root_.Go.Ab.cp.Hw{g:Nat}{h h':AH}{n0:Nat}(ht:cp g h)(hf:Fr h h' (SW n0 h)):cp g h':=by
 refine cp.fr ht hf ?_
 obtain⟨ty,fz,h0⟩:=ht
 exact SW.ty h0 (show(0:Nat)≠77 by decide) (show(0:Nat)≠5 by decide)
theorem LI.call(i:LI n0 h0 h w rv acc vr vs y sh x ps)(hf:Fr h h' fun _=>False):LI n0 h0 h' w rv acc vr vs y sh x ps:=
 ⟨SW.trans i.fr (SW.bJ hf),i.wr.bp hf,hf.bQ i.ov,hf.bQ i.os,i.ar.bp hf,i.tb.bJ hf (fun _ _ h=>h),i.fx,cp.bp i.ht hf⟩
theorem LI.push{K:AV->AH->Prop}{W:Nat->Prop}{s:ByteArray}(i:LI n0 h0 h w rv acc vr vs y sh x ps)(hl:ps.length<=100000000)(hW:∀id,h0.next<=id->W id)
  (hK:∀x' h',LI n0 h0 h' w rv acc vr vs y sh x' (ps++[s])->K x' h') :
  db (some (1,9,[.string ⟨#[]⟩])) 1 [(0,.sc (.string s))] h fun v h4=>dV (some (1,16,9)) x v h4 W fun v' h5=>K v' h5:=by
 show db (some (1,9,[.string ⟨#[]⟩])) 1 [(0,.agg (pe s))] h fun v h4=>dV (some (1,16,9)) x v h4 W fun v' h5=>K v' h5
 refine mP (sz:=1) (bytes:=16) (ty:=9) (K:=fun _=>K) (f:=pe) (fun _=>rfl) (by omega) rfl (fun _=>rfl) (by omega) i.tb (fun id off n he=>hW id (i.fx id off n he)) hl fun v x' h' ht hx hf=>?_
 have cC:∀id o,h.obj id=some o->(o.ro=false->o.ty≠9)->¬ ∃off n,x=.sl id off n:=by
  rintro id o ho jF ⟨off,n,he⟩
  rcases i.tb with⟨h1,_⟩ |⟨qc,h1,h2⟩
  ·rw[h1]at he;cases he
  ·rw[h1]at he;cases he
   rw[ho]at h2;cases h2
   exact jF rfl rfl
 refine hK x' h' ⟨?_,?_,hf.obj i.ov (cC _ _ i.ov (fun _=>show(46:Nat)≠9 by decide)),hf.obj i.os (cC _ _ i.os (fun _=>show(107:Nat)≠9 by decide)),?_,ht,?_,?_⟩
 ·refine i.fr.trans (hf.mono ?_)
  rintro id ⟨off,n,he⟩
  exact .inr (i.fx id off n he)
 ·refine i.wr.fr hf fun id o ho jF=>cC id o ho fun _=>?_
  rcases jF with jF |jF<;>rw[jF]<;>decide
 ·exact i.ar.fr hf fun id o ho jF=>cC id o ho fun hr=>by rw[jF hr];decide
 ·intro id off n he
  exact zR i.fr.next (hx id off n he)
 ·refine cp.fr i.ht hf ?_
  obtain⟨ty,fz,oI⟩:=i.ht
  exact cC _ _ oI (fun _=>show(0:Nat)≠9 by decide)
end
end
section
open Go.Ab
attribute [-simp] aN aD
section
variable {W:Nat->Prop} {QR QN:VK} {QE:Nat->VK} {QP:AV->AH->Prop} {h0 h h':AH} {n0 w:Nat} {rv:AV} {acc:List UInt8} {vr vs:Nat} {y:Row×AV} {sh:Shape} {x:AV} {ps:List ByteArray}
theorem VO(i:LI n0 h0 h w rv acc vr vs y sh x ps)(hl:ps.length<=1000000)(hW:∀id,h0.next<=id->W id)
  (hK:∀x' h',LI n0 h0 h' w rv acc vr vs y sh x' (ps++if y.1.kind=bP then[] else[y.1.kind])->iW.aZ W QR QN QE QP (.ptr w 0) (.ptr vr 0) (.ptr vs 0) x' h'):iW.bu W QR QN QE QP (.ptr w 0) (.ptr vr 0) (.ptr vs 0) x h:=by
 by_cases hk:y.1.kind=bP
 ·rw[zX hk,List.append_nil]at hK
  simp[-iW.aZ,i.ov,au,hk,bP]
  exact hK x h i
 ·rw[zW hk]at hK
  unfold bP at hk
  simp[-iW.aZ,i.ov,au,hk]
  exact i.push (by omega) hW hK
theorem VP(i:LI n0 h0 h w rv acc vr vs y sh x ps)(hl:ps.length<=1000000)(hW:∀id,h0.next<=id->W id)
  (hK:∀x' h',LI n0 h0 h' w rv acc vr vs y sh x' (ps++if sh.name then[y.1.name] else[])->iW.bn W QR QN QE QP (.ptr w 0) (.ptr vr 0) (.ptr vs 0) x' h'):iW.aZ W QR QN QE QP (.ptr w 0) (.ptr vr 0) (.ptr vs 0) x h:=by
 cases hk:sh.name with
 |false=>
  rw[hk,zW (by decide),List.append_nil]at hK
  simp[-iW.bn,i.ov,i.os,au,Shape.enc,hk]
  exact hK x h i
 |true=>
  rw[hk,zX rfl]at hK
  simp[-iW.bn,i.ov,i.os,au,Shape.enc,hk]
  exact i.push (by omega) hW hK
theorem VQ(i:LI n0 h0 h w rv acc vr vs y sh x ps)(hl:ps.length<=1000000)(hW:∀id,h0.next<=id->W id)(vi:-9223372036854775808<=y.1.num)(rS:y.1.num<=9223372036854775807)
  (hK:∀x' h',LI n0 h0 h' w rv acc vr vs y sh x' (ps++if sh.num then[bs (Lib.itoa y.1.num)] else[])->iW.aQ W QR QN QE QP (.ptr w 0) (.ptr vr 0) (.ptr vs 0) x' h'):iW.bn W QR QN QE QP (.ptr w 0) (.ptr vr 0) (.ptr vs 0) x h:=by
 cases hk:sh.num with
 |false=>
  rw[hk,zW (by decide),List.append_nil]at hK
  simp[-iW.aQ,i.ov,i.os,au,Shape.enc,hk]
  exact hK x h i
 |true=>
  rw[hk,zX rfl]at hK
  simp[-iW.aQ,i.ov,i.os,au,Shape.enc,hk]
  refine⟨fun _=>False,fun _ h=>h.elim,B8 vi rS i.ht ?_⟩
  exact i.push (by omega) hW hK
theorem Oh(i0:LI n0 h0 h w rv acc vr vs y sh x ps)(hl:ps.length<=1000)(hb:lG y.1)(hI:tD y.1)(hW:∀id,h0.next<=id->W id)
  (hK:∀x' h',LI n0 h0 h' w rv acc vr vs y sh x' (ps++y.1.args.map nc)->iW.n3 W QR QN QE QP (.ptr w 0) (.ptr vs 0) x' h'):iW.aQ W QR QN QE QP (.ptr w 0) (.ptr vr 0) (.ptr vs 0) x h:=by
 have hlen:=hb.len
 simp only[iW.aQ,al,aF,i0.ov,aB,zG,au,zB,zA,ah,i0.ar.len.1,i0.ar.len.2,zH]
 unfold iW.aU
 refine bX (ι:=Nat×AV) (fun z v h'=>v=[.ptr w 0,.ptr vs 0,z.2,y.2,I y.1.args.length,I z.1]/\z.1<=y.1.args.length/\LI n0 h0 h' w rv acc vr vs y sh z.2 (ps++(y.1.args.take z.1).map nc)) (fun z=>y.1.args.length-z.1) (0,x) ?_ ?_
 ·exact⟨rfl,by simp,by simpa using i0⟩
 rintro K ⟨i,xx⟩ v h' ⟨rfl,hi,li⟩ P9
 simp only at hi li P9
 simp only[iW.cn,zN,zO]
 by_cases aM:i<y.1.args.length
 ·have dh:(i:Int)<y.1.args.length:=by omega
  have g1:y.1.args[i]?=some y.1.args[i]:=zJ aM
  have gi:=hI _ (List.getElem_mem aM)
  have gb:=hb.args _ (List.getElem_mem aM)
  have ht:ps++(y.1.args.take (i+1)).map nc=(ps++(y.1.args.take i).map nc)++[nc y.1.args[i]]:=by
   rw[List.take_succ_eq_append_getElem aM,List.map_append];simp only[List.map_cons,List.map_nil,List.append_assoc]
  have hw:IntKind.i64.wrap ((i:Int)+1)=((i+1:Nat):Int):=by rw[aL (by omega) (by omega)];simp
  have fin:∀x' h',LI n0 h0 h' w rv acc vr vs y sh x' ((ps++(y.1.args.take i).map nc)++[nc y.1.args[i]])->iW.n4 W QR K (fun(i:Nat) (vs:List AV) (h:AH)=>if i=0 then iW.n3 W QR QN QE QP (vs.getD 0 ab) (vs.getD 1 ab) (vs.getD 2 ab) h else QE i vs h) QP (.ptr w 0) (.ptr vs 0) x' y.2 (I y.1.args.length) (I i) h':=by
   intro x' h2 TA
   simp only[iW.n4,aR,hw]
   exact P9 (i+1,x') _ _ (by simp only;omega) ⟨rfl,by simp only;omega,by rw[ht];exact TA⟩
  have jH:(ps++(y.1.args.take i).map nc).length<=1000000:=by simp;omega
  generalize y.1.args[i]=g at *
  simp only[iW.aP,ba,zL dh,iW.n9,ao,zD,zF,zC,zI,iW.n8]
  refine hZ li.ar Arg.ci (Arg.gL _) g1 rfl rfl (fun id hid=>hW id (zR li.fr.next hid)) fun vn h1 f1 qe ov=>?_
  have Hb:=li.call f1
  by_cases hx:g.index<0
  ·have e:nc g=g.name:=by unfold nc qE;rw[zX hx,List.append_nil]
   have T6:¬0<=g.index:=by omega
   rw[e]at fin
   simp[-iW.n4,ov,Arg.enc,T6]
   exact Hb.push (by omega) hW fin
  ·have T6:0<=g.index:=by omega
   have e:nc g=g.name++bs [91]++bs (Lib.itoa g.index)++bs [93]:=by
    apply ByteArray.ext;simp[nc,qE,hx,bs,ls]
   have YR:(bs [91]).size=1:=rfl
   have YQ:(bs [93]).size=1:=rfl
   have hlen:=Lib.itoa_length_le g.index (by omega) (by omega)
   rw[e]at fin
   simp only[iW.n7,iW.n6,iW.n5,al,aF,ov,aB,zG,Arg.enc,zB,zA,ah,nE,zL T6,ge_iff_le,ao,zD,zF,zC,zI,sy]
   refine⟨by show g.name.size+(bs [91]).size<_;omega,fun _=>False,fun _ h=>h.elim,B8 (by omega) (by omega) Hb.ht ?_⟩
   simp only[sy]
   have es:(g.name++bs [91]).size=g.name.size+1:=by rw[ByteArray.size_append,YR]
   have es2:(g.name++bs [91]++bs (Lib.itoa g.index)).size=g.name.size+1+(Lib.itoa g.index).length:=by rw[ByteArray.size_append,es];rfl
   refine⟨?_,?_,Hb.push (by omega) hW fin⟩
   ·show(g.name++bs [91]).size+(Lib.itoa g.index).length<_
    rw[es];omega
   ·show(g.name++bs [91]++bs (Lib.itoa g.index)).size+(bs [93]).size<_
    rw[es2,YQ];omega
 ·have df:¬(i:Int)<y.1.args.length:=by omega
  rw[List.take_of_length_le (by omega)]at li
  simp only[iW.aP,ba,zK df,iW.n9,ao,zD,zE,zC,zH,zV,zN,zO]
  exact hK _ _ li
end
end
section
open Go.Ab
attribute [-simp] aN aD
def vJ(sh:Shape)(r:Row):List ByteArray:=(((if r.kind=bP then[] else[r.kind])++if sh.name then[r.name] else[])++if sh.num then[bs (Lib.itoa r.num)] else[])++r.args.map nc
def uz(sh:Shape)(r:Row):List UInt8:=Lib.join ((vJ sh r).map ls) [32]
def wT(b:Bool):List UInt8:=if b then[32,123,10] else[59,10]
def pJ(d:Nat)(sh:Shape)(r:Row)(acc:List UInt8):List UInt8:=mZ (mZ (mZ acc (nF d)) (uz sh r)) (wT sh.body)
section
variable {h:AH} {M:Nat->Prop} {R:AE->AH->Prop} {n0 w:Nat} {rv:AV} {acc:List UInt8} {y:Row×AV} {sh:Shape}
theorem Rx{d:Nat}(hw:Wr n0 h w rv acc)(ha:acc.length<=90000000)(hd:d<=40)(hn:n0<=h.next)(ht:cp 0 h)(P2:cf Arg.enc 2 67 h y.2 y.1.args)(hb:lG y.1)(hI:tD y.1)(vi:0<=y.1.num)(rS:y.1.num<=9007199254740991)(hJ:(uz sh y.1).length<=20000000)
  (hM:∀id,SW n0 h id->M id) (hR:∀h',Fr h h' (SW n0 h)->Wr n0 h' w rv (pJ d sh y.1 acc)->R (.ret (.cM [])) h'):ay Pg 50 [.ptr w 0,.agg (au y),.agg sh.enc,I d] h M R:=by
 apply iW.aI
 unfold iW.bE
 refine cW (mr P2) fun vr h1 f1 gK ov=>?_
 refine cW (cs:=sh.enc) (by rfl) fun vs h2 f2 wq os=>?_
 unfold iW.bC
 have f12:=f1.bO f2
 have Up:n0<=h2.next:=zR hn f12.next
 have Xx:Fr h h2 (SW n0 h):=SW.bJ f12
 have An:∀{h'},Fr h h' (SW n0 h)->∀id,SW n0 h' id->M id\/h.next<=id:=fun hf id hs=>(SW.back hf hs).imp (hM id) fun h=>h
 refine⟨SW n0 h2,fun id hs _=>An Xx id hs,CW (hw.bp f12) ha hd Up (fun _ h=>h) fun h3 f3 hw3=>?_⟩
 have s3:=SW.trans Xx f3
 have li:LI n0 h h3 w rv (mZ acc (nF d)) vr vs y sh aV []:=by
  refine⟨s3,hw3,?_,?_,?_,.nil,(fun _ _ _ he=>by cases he),cp.Hw (cp.bp ht f12) f3⟩
  ·exact f3.obj (f2.bQ ov) (SW.ty (f2.bQ ov) (show(46:Nat)≠77 by decide) (show(46:Nat)≠5 by decide))
  ·exact f3.obj os (SW.ty os (show(107:Nat)≠77 by decide) (show(107:Nat)≠5 by decide))
  ·exact(P2.bp f12).fr f3 fun id o ho jF=>SW.ro ho fun hr=>by rw[jF hr];decide
 simp only[iW.bz]
 have hW:∀id,h.next<=id->M id\/h.next<=id:=fun id hid=>.inr hid
 have a1:(if y.1.kind=bP then[] else[y.1.kind]:List ByteArray).length<=1:=by split<;>simp
 have a2:(if sh.name then[y.1.name] else[]:List ByteArray).length<=1:=by split<;>simp
 have a3:(if sh.num then[bs (Lib.itoa y.1.num)] else[]:List ByteArray).length<=1:=by split<;>simp
 refine VO li (by simp) hW fun x1 h4 Hb=>?_
 rw[List.nil_append]at Hb
 refine VP Hb (by omega) hW fun x2 h5 TA=>?_
 refine VQ TA (by rw[List.length_append];omega) hW (by omega) (by omega) fun x3 h6 li3=>?_
 refine Oh li3 (by rw[List.length_append,List.length_append];omega) hb hI hW fun x4 h7 EG=>?_
 have l4:=hb.len
 unfold iW.n3
 have Pw:(vJ sh y.1).length<=100000:=by
  unfold vJ
  rw[List.length_append,zZ,List.length_append,List.length_append]
  omega
 refine⟨fun _=>False,fun _ h=>h.elim,RF (xs:=vJ sh y.1) (sep:=bs [32]) EG.tb Pw (by show(uz sh y.1).length<=_;omega) ?_⟩
 have p1:(mZ acc (nF d)).length<=90000000:=nN ha (by rw[uA];omega)
 refine⟨SW n0 h7,fun id hs _=>An EG.fr id hs,tJ (s:=uz sh y.1) EG.wr (by omega) (by omega) (zR hn EG.fr.next) (fun _ h=>h) fun h8 f8 KR=>?_⟩
 have p2:=nN p1 hJ
 have XE:=f8.obj EG.os (SW.ty EG.os (show(107:Nat)≠77 by decide) (show(107:Nat)≠5 by decide))
 have s8:=SW.trans EG.fr f8
 have p3:=nN (s:=wT sh.body) p2 (by unfold wT;split<;>simp)
 unfold pJ at hR
 cases Dd:sh.body with
 |true=>
  rw[Dd]at hR
  simp[XE,Shape.enc,Dd]
  refine⟨SW n0 h8,fun id hs _=>An s8 id hs,tJ (s:=[32,123,10]) KR (by omega) (by simp) (zR hn s8.next) (fun _ h=>h) fun h9 f9 T9=>?_⟩
  exact hR h9 (SW.trans s8 f9) T9
 |false=>
  rw[Dd]at hR
  simp[XE,Shape.enc,Dd]
  refine⟨SW n0 h8,fun id hs _=>An s8 id hs,tJ (s:=[59,10]) KR (by omega) (by simp) (zR hn s8.next) (fun _ h=>h) fun h9 f9 T9=>?_⟩
  exact hR h9 (SW.trans s8 f9) T9
end
end
section
open Go.Ab
attribute [-simp] aN aD
theorem qS(k:ByteArray):(eo k).1.body=gM k:=by
 unfold eo gM
 by_cases k1:k=aX
 ·simp[k1,aX,aY,aK,c9]
 by_cases k2:k=bK
 ·simp[k2,aX,bK,aY,aK,c9]
 by_cases k3:k=aY
 ·simp[k3,aX,bK,aY,aK,c9]
 by_cases k4:k=aK
 ·simp[k4,aX,bK,aY,aK,c9]
 by_cases k5:k=c9
 ·simp[k5,aX,bK,aY,aK,c9]
 by_cases k6:k=be
 ·simp[k6,aX,bK,aY,aK,c9,be]
 by_cases k7:k=ch
 ·simp[k7,aX,bK,aY,aK,c9,be,ch]
 by_cases k8:k=bP
 ·simp[k8,aX,bK,aY,aK,c9,be,ch,bP]
 simp[k1,k2,k3,k4,k5,k6,k7,k8]
theorem JO(k:ByteArray):(eo k).1.num=qy k:=by
 unfold eo qy
 by_cases k1:k=aX
 ·simp[k1]
 by_cases k2:k=bK
 ·simp[k2]
 by_cases k3:k=aY
 ·simp[k3,aX,bK,aY,aK,c9]
 by_cases k4:k=aK
 ·simp[k4,aX,bK,aY,aK,c9]
 by_cases k5:k=c9
 ·simp[k5,aX,bK,aY,aK,c9]
 by_cases k6:k=be
 ·simp[k6,aX,bK,aY,aK,c9,be]
 by_cases k7:k=ch
 ·simp[k7,aX,bK,aY,aK,c9,be,ch]
 by_cases k8:k=bP
 ·simp[k8,aX,bK,aY,aK,c9,be,ch,bP]
 simp[k1,k2,k3,k4,k5,k6,k7,k8]
theorem JN:(eo bP).1.name=true:=by simp[eo,aX,bK,aY,aK,c9,be,ch,bP]
theorem uy{r:Row}(hr:j9 r=true):uz (eo r.kind).1 r=ky r:=by
 unfold j9 lq at hr
 simp only[yC]at hr
 obtain⟨⟨⟨⟨⟨⟨⟨_,h1⟩,h2⟩,_⟩,_⟩,_⟩,_⟩,_⟩:=hr
 have h1:(eo r.kind).1.name=gG r.name:=by simpa using h1
 have pK:Lib.joinTail [32] ((r.args.map nc).map ls)=ik r.args:=by
  unfold Lib.joinTail ik
  generalize r.args=l
  induction l with
  |nil=>rfl
  |cons g l ih=>simp only[List.map_cons,List.flatten_cons,List.flatMap_cons,ih];rfl
 have DP:∀A B:List (List UInt8),Lib.joinTail [32] (A++B)=Lib.joinTail [32] A++Lib.joinTail [32] B:=fun A B=>by simp[Lib.joinTail]
 have kY:∀s:List UInt8,Lib.joinTail [32] [s]=32::s:=fun s=>by simp[Lib.joinTail]
 have Ca:Lib.joinTail [32] []=[]:=rfl
 unfold uz vJ ky lP
 rw[JO]
 have qA:Lib.joinTail [32] ((if qy r.kind then[bs (Lib.itoa r.num)] else[]:List ByteArray).map ls)=(if qy r.kind then 32::Lib.itoa r.num else[]):=by
  split
  ·simp only[List.map_cons,List.map_nil,kY]
  ·rfl
 by_cases hu:r.kind=bP
 ·rw[zX hu,zX hu,List.nil_append,hu,JN,zX rfl]
  rw[<-hu]
  simp only[List.map_append,List.map_cons,List.map_nil,List.singleton_append,List.cons_append,List.nil_append]
  rw[Lib.join_cons,DP,qA,pK]
  simp only[List.append_assoc]
 ·rw[zW hu,zW hu]
  by_cases hn:r.name=ByteArray.empty
  ·have hp:gG r.name=false:=by
    cases hp:gG r.name with
    |true=>exact absurd hn (Em hp)
    |false=>rfl
   rw[zX hn,h1,hp,zW (by decide),List.append_nil]
   simp only[List.map_append,List.map_cons,List.map_nil,List.singleton_append,List.cons_append,List.nil_append]
   rw[Lib.join_cons,DP,qA,pK]
   simp only[List.append_assoc]
  ·have hs:(eo r.kind).1.name=true:=by simpa[hn] using h2
   rw[zW hn,hs,zX rfl]
   simp only[List.map_append,List.map_cons,List.map_nil,List.singleton_append,List.cons_append,List.nil_append]
   rw[Lib.join_cons]
   rw[show(ls r.name::(List.map ls (if qy r.kind=true then[bs (Lib.itoa r.num)] else[])++List.map ls (List.map nc r.args)))=[ls r.name]++(List.map ls (if qy r.kind=true then[bs (Lib.itoa r.num)] else[])++List.map ls (List.map nc r.args)) from rfl,DP,DP,kY,qA,pK]
   simp only[List.append_assoc]
def im(d:Nat)(rows:List Row)(acc:List UInt8):List UInt8:=
 match rows with
 |[]=>acc
 |r::rest=>im d (rest.drop r.rows.toNat) (if gM r.kind then mZ (mZ (im (d+1) (rest.take r.rows.toNat) (pJ d (eo r.kind).1 r acc)) (nF d)) [125,10] else pJ d (eo r.kind).1 r acc)
termination_by rows.length
decreasing_by all_goals (simp only[yA,List.length_drop,List.length_cons];omega)
theorem Ak{d:Nat}{acc:List UInt8}:im d [] acc=acc:=by rw[im]
theorem xW{d:Nat}{r:Row}{rest:List Row}{acc:List UInt8}:im d (r::rest) acc=im d (rest.drop r.rows.toNat) (if gM r.kind then mZ (mZ (im (d+1) (rest.take r.rows.toNat) (pJ d (eo r.kind).1 r acc)) (nF d)) [125,10] else pJ d (eo r.kind).1 r acc):=by rw[im]
theorem xX{r:Row}(hb:lG r)(hI:tD r)(h0:0<=r.num)(h1:r.num<=9007199254740991):(ky r).length<=11000000:=by
 have:=s_ hI;have:=hb.all;have:=hb.kind;have:=hb.name
 have e1:(ls r.kind).length=r.kind.size:=rfl
 have e2:(ls r.name).length=r.name.size:=rfl
 have hi:=Lib.itoa_length_le r.num (by omega) (by omega)
 have hb:(lP r).length<=300000:=by
  unfold lP
  split
  ·omega
  ·split
   ·omega
   ·simp only[List.length_append,List.length_cons];omega
 unfold ky
 simp only[List.length_append]
 have:(if qy r.kind=true then 32::Lib.itoa r.num else[]).length<=22:=by split<;>simp<;>omega
 omega
end
section
open Go.Ab
attribute [-simp] aN aD
theorem jq.Hw{h h':AH}{x:AV}{l:List (Row×AV)}{n0:Nat}(a:jq h x l)(hf:Fr h h' (SW n0 h)):jq h' x l:=
 ⟨a.dy.fr hf fun id o ho jF=>SW.ro ho fun hr=>by rw[jF hr];decide,fun y hy=>(a.args y hy).fr hf fun id o ho jF=>SW.ro ho fun hr=>by rw[jF hr];decide⟩
def BY(d:Nat)(r:Row)(n:Nat):Bool:=j9 r&&decide (0<=r.rows)&&decide (r.rows<=n)&&decide (d<=32)&&!(gM r.kind&&decide (d=32))
theorem Kq{d:Nat}{r:Row}{rest:List Row}:cw d (r::rest)=(BY d r rest.length&&cw (d+1) (rest.take r.rows.toNat)&&cw d (rest.drop r.rows.toNat)):=by
 rw[pH]
 unfold BY lD
 by_cases hd:d<=32
 ·have e:decide (32<=d)=decide (d=32):=by by_cases h:d=32<;>simp[h]<;>omega
  rw[e,zL hd]
  simp only[Bool.true_and,Bool.and_true]
  ac_rfl
 ·rw[zK hd];simp
section
variable {W:Nat->Prop} {QR QN:VK} {QE:Nat->VK} {QP:AV->AH->Prop} {h:AH} {x0:AV} {vr vs:Nat} {y:Row×AV} {sh:Shape} {b:Bool} {i j d:Nat}
theorem Xq{x2 x3 x9:AV}(hv:h.obj vr=some (aO (au y) 6 46))(hK:fw.bE W QR QN QE QP x0 x2 x3 x9 (.ptr vr 0) (.ptr vs 0) (B (b||decide (y.1.rows<0))) h):fw.bD W QR QN QE QP x0 x2 x3 x9 (.ptr vr 0) (.ptr vs 0) (B b) h:=by
 cases b<;>simp[-fw.bE,hv,au]at hK ⊢<;>exact hK
theorem Xp{x3:AV}(hi:i<j)(hj:j<=1000000)(hv:h.obj vr=some (aO (au y) 6 46))(hK:fw.bz W QR QN QE QP x0 (I j) x3 (I i) (.ptr vr 0) (.ptr vs 0) (B (b||decide (((j-(i+1):Nat):Int)<y.1.rows))) h):fw.bE W QR QN QE QP x0 (I j) x3 (I i) (.ptr vr 0) (.ptr vs 0) (B b) h:=by
 have OX:IntKind.i64.wrap ((j:Int)-i)=((j-i:Nat):Int):=by rw[aL (by omega) (by omega)];omega
 have H7:IntKind.i64.wrap (((j-i:Nat):Int)-1)=((j-(i+1):Nat):Int):=by rw[aL (by omega) (by omega)];omega
 cases b
 ·simp only[fw.bE,dl,zT,zE,zD,zC,zI,al,aF,hv,aB,zG,au,zB,zA,ah,eX,OX,H7,dZ,gt_iff_lt,fw.bC,cD,if_false]
  simpa[-fw.bz] using hK
 ·simp[-fw.bz]at hK ⊢;exact hK
theorem Xo{x2 x9 ap aA:AV}(hK:fw.bg W QR QN QE QP x0 x2 (I d) x9 ap aA (B (b||decide (32<d))) h):fw.bz W QR QN QE QP x0 x2 (I d) x9 ap aA (B b) h:=by
 have e:decide ((32:Int)<(d:Int))=decide (32<d):=by by_cases h:32<d<;>simp[h]<;>omega
 cases b
 ·simp only[fw.bz,dl,zT,zE,zD,zC,zI,dZ,gt_iff_lt,e,fw.bu,cD,if_false]
  simpa[-fw.bg] using hK
 ·simp[-fw.bg]at hK ⊢;exact hK
theorem Xn{x2 x9 ap:AV}(hs:h.obj vs=some (aO sh.enc 4 107))(hK:fw.a_ W QR QN QE QP x0 x2 (I d) x9 ap (.ptr vs 0) (B (b||(sh.body&&decide (d=32)))) h):fw.bg W QR QN QE QP x0 x2 (I d) x9 ap (.ptr vs 0) (B b) h:=by
 have e:((d:Int)==32)=decide (d=32):=by by_cases h:d=32<;>simp[h]<;>omega
 cases b
 ·cases hb:sh.body
  ·simp[-fw.a_,hs,Shape.enc,hb]at hK ⊢;exact hK
  ·rw[hb]at hK
   simp only[fw.bg,dl,zT,zE,zD,zC,zI,al,aF,hs,aB,zG,Shape.enc,zB,zA,ah,hb,fw.aZ,zS,zF,dD,e,fw.bj,fw.bn,cD,zV,if_false]
   simpa[-fw.a_] using hK
 ·simp[-fw.a_]at hK ⊢;exact hK
end
end
section
open Go.Ab
attribute [-simp] aN aD
theorem NE(b:Bool):(wT b).length<=3:=by unfold wT;split<;>simp
theorem MT{d:Nat}{r:Row}{acc:List UInt8}(hd:d<=40)(ha:acc.length<=90000000)(hr:j9 r=true)(hb:lG r)(hI:tD r)(h0:0<=r.num)(h1:r.num<=9007199254740991):(pJ d (eo r.kind).1 r acc).length<=90000000:=by
 have:=xX hb hI h0 h1
 have:=NE (eo r.kind).1.body
 unfold pJ
 refine nN (nN (nN ha ?_) ?_) (by omega)
 ·rw[uA];omega
 ·rw[uy hr];omega
def WC(n0:Nat)(h:AH)(w:Nat)(x:AV)(ok:Bool)(tA:List UInt8)(Q:AH->Prop):Prop:=
 ∀h' my,Fr h h' (SW n0 h)->Wr n0 h' w x my->my.length<=90000000->(ok=true->my=tA)->Q h'
section
variable {W:Nat->Prop} {QR QN:VK} {QE:Nat->VK} {QP:AV->AH->Prop} {h:AH} {n0 w:Nat} {x:AV} {acc:List UInt8} {l:List (Row×AV)} {i j d:Nat}
theorem Ow(hx:jq h x l)(hw:Wr n0 h w x acc)(ht:cp 0 h)(ha:acc.length<=90000000)(hB:∀y∈l,lG y.1)(hi:i<j)(hj:j<=l.length)(hl:l.length<=1000000)(hd:d<=33)(hn:n0<=h.next)(hW:∀id,SW n0 h id\/h.next<=id->W id)
  (rec:∀{h:AH}{acc:List UInt8}{M:Nat->Prop}{R:AE->AH->Prop}{i' j' d'},jq h x l->Wr n0 h w x acc->cp 0 h->acc.length<=90000000->i<i'->i'<=j'->j'<=j->d'<=33->n0<=h.next->(∀id,SW n0 h id->M id) ->
   WC n0 h w x (cw d' (ea l i' j')) (im d' (ea l i' j') acc) (R (.ret (B (cw d' (ea l i' j')))))->ay Pg 30 [.ptr w 0,I i',I j',I d'] h M R)
  (hf:cw d (ea l i j)=false->∀h' my,Fr h h' (SW n0 h)->Wr n0 h' w x my->my.length<=90000000->QR [B false] h')
  (hT:∀k:Nat,cw d (ea l (i+1+k) j)=cw d (ea l i j)->i+1+k<=j->∀h' my,im d (ea l (i+1+k) j) my=im d (ea l i j) acc->my.length<=90000000->Fr h h' (SW n0 h)->Wr n0 h' w x my->QN [.ptr w 0,I j,I d,I (i+1+k:Nat)] h') :
  fw.bT W QR QN QE QP (.ptr w 0) (I j) (I d) (I i) h:=by
 have aM:i<l.length:=by omega
 have g1:l[i]?=some l[i]:=zJ aM
 rw[xn hi hj,Kq,BN (by omega) hj]at hf hT
 rw[xW]at hT
 have hb:=hB _ (List.getElem_mem aM)
 have yk:=hx.args _ (List.getElem_mem aM)
 generalize l[i]=y at *
 obtain⟨p,bv,how,_,_⟩:=hw.ex
 simp only[fw.bT,aT,al,aF,how,aB,zG,zA,ah]
 refine hZ hx.dy eF (mr yk) g1 rfl rfl (fun id hid=>hW id (.inr hid)) fun vr h1 f1 gK ov=>?_
 simp only[fw.bY,al,aF,ov,aB,zG,au,zA,ah]
 refine⟨fun _=>False,fun _ h=>h.elim,Ar fun h2 f2=>?_⟩
 simp only[dx,ah,zA,zB]
 have f12:=f1.bO f2
 refine gH (by rfl) rfl rfl rfl (fun id hid=>hW id (.inr (zR f12.next hid))) fun vs h3 f3 wq os=>?_
 have f13:=f12.bO f3
 have nj:=(f2.bO f3).bQ ov
 unfold fw.bZ
 refine dN nj rfl fun q=>?_
 refine⟨fun _=>False,fun _ h=>h.elim,MC (yk.bp f13) (by have:=hb.name;omega) (fun g hg=>by have:=hb.args g hg;omega) (by have:=hb.len;omega) fun h4 f4=>?_⟩
 have f14:=f13.bO f4
 have xZ:=f4.bQ nj
 have O7:=f4.bQ os
 simp only[dR]
 refine Xq xZ (Xp hi (by omega) xZ (Xo (Xn O7 ?_)))
 have e:((((!j9 y.1)||decide (y.1.rows<0))||decide (((j-(i+1):Nat):Int)<y.1.rows))||decide (32<d)||((eo y.1.kind).1.body&&decide (d=32)))=!BY d y.1 (j-(i+1)):=by
  unfold BY
  rw[qS]
  have e1:decide (y.1.rows<0)=!decide (0<=y.1.rows):=by by_cases hx:y.1.rows<0<;>by_cases hy:0<=y.1.rows<;>simp[hx,hy]<;>omega
  have e2:decide (((j-(i+1):Nat):Int)<y.1.rows)=!decide (y.1.rows<=((j-(i+1):Nat):Int)):=by by_cases hx:((j-(i+1):Nat):Int)<y.1.rows<;>by_cases hy:y.1.rows<=((j-(i+1):Nat):Int)<;>simp only[hx,hy,decide_true,decide_false,zS,zT]<;>omega
  have e3:decide (32<d)=!decide (d<=32):=by by_cases hx:32<d<;>by_cases hy:d<=32<;>simp[hx,hy]<;>omega
  rw[e1,e2,e3]
  simp only[Bool.not_and,Bool.not_or,Bool.not_not]
 rw[e]
 have S3:Fr h h4 (SW n0 h):=SW.bJ f14
 cases eM:BY d y.1 (j-(i+1)) with
 |false=>
  simp
  exact hf (by rw[eM];rfl) h4 acc S3 (hw.bp f14) ha
 |true=>
  rw[eM,Bool.true_and]at hf hT
  unfold BY at eM
  simp only[yC,decide_eq_true_eq,Bool.not_eq_true',Bool.and_eq_false_iff,decide_eq_false_iff_not]at eM
  obtain⟨⟨⟨⟨hr,oH⟩,mR⟩,abK⟩,Dd⟩:=eM
  obtain⟨k,hk⟩:∃k:Nat,y.1.rows=k:=⟨y.1.rows.toNat,by omega⟩
  have wD:i+1+k<=j:=by omega
  rw[hk,zY,uk (by omega),ul (by omega)]at hf hT
  have pk:lD y.1=true:=by unfold lD;rw[hr,zL oH];rfl
  have A5:=Cf pk
  have wi:IntKind.i64.wrap ((i:Int)+1)=((i+1:Nat):Int):=by rw[aL (by omega) (by omega)];simp
  have wk:IntKind.i64.wrap (((i+1:Nat):Int)+k)=((i+1+k:Nat):Int):=by rw[aL (by omega) (by omega)];simp
  have wd:IntKind.i64.wrap ((d:Int)+1)=((d+1:Nat):Int):=by rw[aL (by omega) (by omega)];simp
  have An:∀{h'},Fr h h' (SW n0 h)->∀id,SW n0 h' id->W id:=fun hf id hs=>hW id (SW.back hf hs)
  simp only[zS,fw.a_,ao,zE,zD,zC,zH,fw.aU]
  refine dN xZ rfl fun q2=>?_
  refine dN O7 rfl fun q3=>?_
  have tR:(uz (eo y.1.kind).1 y.1).length<=20000000:=by
   rw[uy hr]
   have:=xX hb A5.2.2 A5.1 A5.2.1
   omega
  refine⟨SW n0 h4,fun id hs _=>An S3 id hs,Rx (hw.bp f14) ha (by omega) (zR hn f14.next) (cp.bp ht f14) (yk.bp f14) hb A5.2.2 A5.1 A5.2.1 tR (fun _ h=>h) fun h5 f5 X1=>?_⟩
  have Yk:=MT (d:=d) (by omega) ha hr hb A5.2.2 A5.1 A5.2.1
  have G0:=SW.trans S3 f5
  have vY:=f5.obj xZ (SW.ty xZ (show(46:Nat)≠77 by decide) (show(46:Nat)≠5 by decide))
  have os5:=f5.obj O7 (SW.ty O7 (show(107:Nat)≠77 by decide) (show(107:Nat)≠5 by decide))
  simp only[fw.aP,fw.n9,al,aF,vY,os5,aB,zG,au,Shape.enc,zB,zA,ah,hk,aR,wi,wk,qS]
  cases lN:gM y.1.kind with
  |false=>
   rw[lN,zW (by decide)]at hT
   have E8:k=0:=by
    have hh:=hr
    unfold j9 lq at hh
    simp only[yC]at hh
    have h0:=hh.1.2
    rw[qS,lN]at h0
    simp at h0
    omega
   subst E8
   rw[show ea l (i+1) (i+1+0)=[] by unfold ea;rw[xu (by omega)];rfl,uw,Bool.true_and]at hT
   simp only[fw.n8,ao,zE,zD,zC,zH,fw.n2]
   exact hT 0 rfl wD h5 _ rfl Yk G0 X1
  |true=>
   rw[lN,zX rfl]at hT
   have abL:d<32:=by
    rcases Dd with jI |jI
    ·rw[lN]at jI;cases jI
    ·omega
   simp only[fw.n8,ao,zF,zD,zC,zI,fw.n7,aR,wi,wd]
   refine⟨SW n0 h5,fun id hs _=>An G0 id hs,rec (hx.Hw G0) X1 (cp.Hw ht G0) Yk (Nat.lt_succ_self i) (by omega) wD (by omega) (zR hn G0.next) (fun _ h=>h) fun h6 abB f6 X0 sK UB=>?_⟩
   have O5:=SW.trans G0 f6
   simp only[dR]
   cases tn:cw (d+1) (ea l (i+1) (i+1+k)) with
   |false=>
    simp
    exact hf (by rw[tn];rfl) h6 abB O5 X0 sK
   |true=>
    rw[tn,Bool.true_and]at hT
    have UB:=UB tn
    simp only[zS,fw.n6,ao,zE,zD,zC,zH,fw.n4]
    refine⟨SW n0 h6,fun id hs _=>An O5 id hs,CW X0 sK (by omega) (zR hn O5.next) (fun _ h=>h) fun h7 f7 hw7=>?_⟩
    have S2:=SW.trans O5 f7
    have PI:=nN (s:=nF d) sK (by rw[uA];omega)
    simp only[fw.n3]
    refine⟨SW n0 h7,fun id hs _=>An S2 id hs,tJ (s:=[125,10]) hw7 (by omega) (by simp) (zR hn S2.next) (fun _ h=>h) fun h8 f8 KR=>?_⟩
    have s18:=SW.trans S2 f8
    have Yj:=nN (s:=[125,10]) PI (by simp)
    simp only[fw.n2]
    rw[UB]at KR Yj
    exact hT k rfl wD h8 _ rfl Yj s18 KR
theorem Mh(m:Nat):∀{h:AH}{acc:List UInt8}{M:Nat->Prop}{R:AE->AH->Prop}{i j d:Nat},j-i<m->jq h x l->Wr n0 h w x acc->cp 0 h->acc.length<=90000000->(∀y∈l,lG y.1)->i<=j->j<=l.length->l.length<=1000000->d<=33->n0<=h.next->(∀id,SW n0 h id->M id) ->
  WC n0 h w x (cw d (ea l i j)) (im d (ea l i j) acc) (R (.ret (B (cw d (ea l i j)))))->ay Pg 30 [.ptr w 0,I i,I j,I d] h M R:=by
 induction m with
 |zero=>intro h acc M R i j d hm;omega
 |succ m ih=>
  intro h acc M R i j d hm hx hw ht ha hB Hk hj hl hd hn hM hR
  apply fw.aI
  unfold fw.cV fw.cN fw.cq
  refine bX (ι:=Nat×List UInt8) (fun z vs h'=>vs=[.ptr w 0,I j,I d,I z.1]/\i<=z.1/\z.1<=j/\Fr h h' (SW n0 h)/\Wr n0 h' w x z.2/\z.2.length<=90000000/\cw d (ea l z.1 j)=cw d (ea l i j)/\im d (ea l z.1 j) z.2=im d (ea l i j) acc) (fun z=>j-z.1) (i,acc) ?_ ?_
  ·exact⟨rfl,zU _,Hk,Fr.refl,hw,ha,rfl,rfl⟩
  rintro K ⟨i',my⟩ vs h' ⟨rfl,PN,vj,hf,ji,tU,he,hs⟩ hK
  simp only at PN vj ji tU he hs hK
  simp only[fw.cn,zN,zO]
  have PF:=zR hn hf.next
  by_cases aM:i'<j
  ·have dh:(i':Int)<j:=by omega
   simp only[fw.cj,fw.bW,ba,zL dh,ao,zD,zF,zC,zI]
   refine Ow (hx.Hw hf) ji (cp.Hw ht hf) tU hB aM hj hl hd PF ?_ ?_ ?_ ?_
   ·rintro id (hid |hid)
    ·exact(SW.back hf hid).imp (hM id) fun h=>h
    ·exact .inr (zR hf.next hid)
   ·intro h2 tA M2 R2 i2 j2 d2 a1 a2 a3 a4 a5 a6 a7 a8 a9 te DE
    exact ih (by omega) a1 a2 a3 a4 hB a6 (by omega) hl a8 a9 te DE
   ·intro h1 h2 tA f2 C4 Hi
    have:=hR h2 tA (SW.trans hf f2) C4 Hi (fun ho=>by rw[<-he,h1]at ho;cases ho)
    rw[<-he,h1]at this
    simpa using this
   ·intro k lJ sL h2 tA nr Hi f2 C4
    exact hK (i'+1+k,tA) _ _ (by simp only;omega) ⟨rfl,by simp only;omega,sL,SW.trans hf f2,C4,Hi,by rw[lJ,he],by rw[nr,hs]⟩
  ·have df:¬(i':Int)<j:=by omega
   have e0:ea l i' j=[]:=by unfold ea;rw[xu (by omega)];rfl
   rw[e0,uw]at he
   rw[e0,Ak]at hs
   have:=hR h' my hf ji tU (fun _=>hs)
   rw[<-he]at this
   simpa[df] using this
end
end
section
open Go.Ab
attribute [-simp] aN aD
def DF(acc T:List UInt8):Prop:=(T.length<=65536->acc=T)/\(65536<T.length->65536<acc.length)
theorem DF.put{acc T s:List UInt8}(h:DF acc T):DF (mZ acc s) (T++s):=by
 unfold DF mZ at *
 simp only[List.length_append]
 by_cases hT:T.length<=65536
 ·have e:=h.1 hT
  subst e
  rw[zX hT]
  exact⟨fun _=>rfl,fun h=>by simpa using h⟩
 ·have:=h.2 (by omega)
  rw[zW (by omega)]
  exact⟨fun h=>by omega,fun _=>this⟩
theorem KK(d:Nat):nF (d+1)=nF d++[32,32]:=by
 unfold nF
 induction d with
 |zero=>rfl
 |succ d ih=>
  show[32,32]++Lib.repeatL [32,32] (d+1)=([32,32]++Lib.repeatL [32,32] d)++[32,32]
  rw[ih,List.append_assoc]
theorem H6(n:Nat):∀{d:Nat}{rows:List Row}{acc T:List UInt8},rows.length<n->cw d rows=true->DF acc T->DF (im d rows acc) (T++eS (nF d) rows):=by
 induction n with
 |zero=>intro d rows acc T h;omega
 |succ n ih=>
  intro d rows acc T hn cS ht
  cases rows with
  |nil=>rw[Ak,vL,List.append_nil];exact ht
  |cons r rest=>
   obtain⟨_,pk,_,_,fe,_,mL⟩:=BX cS
   have hr:j9 r=true:=by unfold lD at pk;simp only[yC]at pk;exact pk.1
   rw[xW,ug]
   have hl:DF (pJ d (eo r.kind).1 r acc) (T++nF d++ky r++wT (gM r.kind)):=by
    unfold pJ
    rw[uy hr,qS]
    exact((ht.put).put).put
   simp only[List.length_cons]at hn
   have aM:(rest.take r.rows.toNat).length<n:=by rw[yA];omega
   have PH:(rest.drop r.rows.toNat).length<n:=by rw[List.length_drop];omega
   cases lN:gM r.kind with
   |false=>
    rw[lN]at hl
    rw[zW (by decide),zW (by decide)]
    have:=ih PH mL hl
    simpa only[wT,zW Bool.false_ne_true,List.append_assoc] using this
   |true=>
    rw[lN]at hl
    rw[zX rfl,zX rfl]
    have h1:=ih aM fe hl
    have h2:=ih PH mL ((h1.put (s:=nF d)).put (s:=[125,10]))
    rw[KK]at h2
    simpa only[wT,zX,List.append_assoc] using h2
def Ib(rows:List Row):List AV:=
 if cw 0 rows then(if (im 0 rows []).length<=65536 then[S (im 0 rows []),I 0] else[S [],I 1]) else[S [],I 100]
theorem Gs(rows:List Row):Ib rows=ig rows:=by
 unfold Ib ig
 cases cS:cw 0 rows with
 |false=>rfl
 |true=>
  have ht:DF (im 0 rows []) (eS [] rows):=H6 (rows.length+1) (T:=[]) (by omega) cS ⟨fun _=>rfl,fun h=>h⟩
  rw[zX rfl,zX rfl]
  by_cases hl:(eS [] rows).length<=65536
  ·rw[ht.1 hl]
  ·have:=ht.2 (by omega)
   rw[zW hl,zW (by omega)]
section
variable {h:AH} {M:Nat->Prop} {R:AE->AH->Prop} {x:AV} {l:List (Row×AV)}
theorem QT(hx:jq h x l)(ht:cp 0 h)(hB:∀y∈l,lG y.1)(hl:l.length<=1000000)
  (hR:∀h',Fr h h' (fun _=>False)->R (.ret (.cM (ig (l.map (·.1))))) h'):ay Pg 18 [x] h M R:=by
 rw[<-Gs]at hR
 apply ub.aI
 unfold ub.n9 ub.n8
 have kY:=hx.dy.one
 have hb:ck (some ([.slice none 0 0,.pointer none,.slice none 0 0],.inl [(0,1),(1,2)])) [(0,x)] (fun t14=>dF 3 77 t14 h fun t15 kU=>ub.n7 (fun id=>M id\/h.next<=id) (aH Pg [.tmp 2,.tmp 3] R) (aH Pg [.tmp 2,.tmp 3] R) (fun _ _ _=>False) (fun v h=>R (.bV v) h) x t15 kU)=dF 3 77 (.agg [x,.sc (.pointer none),aV]) h fun t15 kU=>ub.n7 (fun id=>M id\/h.next<=id) (aH Pg [.tmp 2,.tmp 3] R) (aH Pg [.tmp 2,.tmp 3] R) (fun _ _ _=>False) (fun v h=>R (.bV v) h) x t15 kU:=by
  simp[kY.2]
 rw[hb]
 refine cW (by show(cB x&&(true&&(true&&true)))=true;rw[kY.1];rfl) fun w h1 f1 T_ ow=>?_
 have hw:Wr h.next h1 w x []:=⟨T_,_,_,ow,.inl rfl,.inl ⟨rfl,rfl⟩⟩
 simp only[ub.n7,hx.dy.len.1,hx.dy.len.2,zH]
 refine⟨SW h.next h1,fun id hs _=>.inr hs.1,Mh (i:=0) (d:=0) (l.length+1) (by omega) (hx.bp f1) hw (cp.bp ht f1) (by simp) hB (by omega) (zU _) hl (by omega) f1.next (fun _ h=>h) fun h2 tA f2 C4 Hi Ys=>?_⟩
 rw[vO]at Ys ⊢
 have f12:Fr h h2 (fun _=>False):=f1.trans (f2.mono fun id hs=>.inr hs.1)
 unfold Ib at hR
 simp only[dR]
 cases cS:cw 0 (l.map (·.1)) with
 |false=>
  rw[cS,zW (by decide)]at hR
  simpa using hR h2 f12
 |true=>
  rw[cS,zX rfl]at hR
  rw[<-Ys cS]at hR
  simp only[zS,ub.n6,ao,zE,zD,zC,zH,ub.n4,aT,al,zG]
  refine⟨fun _=>False,fun _ h=>h.elim,Kz C4 ?_⟩
  by_cases hs:tA.length<=65536
  ·rw[zX hs]at hR
   have dh:¬(65536:Int)<(tA.length:Int):=by omega
   simp only[dZ,gt_iff_lt,zK dh,ub.n3,ao,zE,zD,zC,zH,ub.n1,aT,al,zG]
   refine⟨SW h.next h2,fun id hs _=>.inr hs.1,RW C4 (fun _ h=>h) fun h3 f3=>?_⟩
   exact hR h3 (f12.trans (f3.mono fun id hs=>.inr hs.1))
  ·rw[zW hs]at hR
   have dh:(65536:Int)<(tA.length:Int):=by omega
   simp only[dZ,gt_iff_lt,zL dh,ub.n3,ao,zF,zD,zC,zI,ub.n2]
   exact hR h2 f12
end
end
end Go.Proofs.YtjehibknlmehmaaGreatDoor
