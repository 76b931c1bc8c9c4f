/- The text that parse.Show writes. No condition. -/
import Derived.Test.YtjehibknlmehmaaGreatDoorSak
set_option maxRecDepth 100000
namespace Go.Proofs.YtjehibknlmehmaaGreatDoor
section
open Go.Ab
attribute [-simp] aH az
theorem SW.back{n0:Nat}{h h':AH}(hf:Fr h h' (SW n0 h)){id:Nat}(hs:SW n0 h' id):SW n0 h id\/h.next<=id:=by
 by_cases hl:id<h.next
 ·refine .inl (Classical.byContradiction fun hc=>hc ?_)
  obtain⟨h1,o,h2,h3⟩:=hs
  exact⟨h1,o,by rw[<-hf.dr id hl hc];exact h2,h3⟩
 ·exact .inr (by omega)
theorem SW.ty{n0:Nat}{h:AH}{id:Nat}{o:AO}(ho:h.obj id=some o)(h1:o.ty≠77)(h2:o.ty≠5):¬SW n0 h id:=by
 rintro⟨_,o',h3,_,h4⟩
 rw[ho]at h3;cases h3
 exact h4.elim h1 h2
theorem SW.ro{n0:Nat}{h:AH}{id:Nat}{o:AO}(ho:h.obj id=some o)(h1:o.ro=false->o.ty≠77/\o.ty≠5):¬SW n0 h id:=by
 rintro⟨_,o',h3,h5,h4⟩
 rw[ho]at h3;cases h3
 exact h4.elim (h1 h5).1 (h1 h5).2
def mD(acc s:List UInt8):List UInt8:=if acc.length<=65536 then acc++s else acc
section
variable {h:AH} {M W:Nat->Prop} {R:AE->AH->Prop} {QR QN:VK} {QE:Nat->VK} {QP:AV->AH->Prop} {n0 w:Nat} {rv:AV} {acc:List UInt8}
theorem tx{s:List UInt8}(hw:Wr n0 h w rv acc)(ha:acc.length<=100000000)(hs:s.length<=100000000)(hn:n0<=h.next)(hM:∀id,SW n0 h id->M id)
  (hR:∀h',Fr h h' (SW n0 h)->Wr n0 h' w rv (mD acc s)->R (.ret (.cP [])) h'):aB Pg 52 [.ptr w 0,S s] h M R:=by
 apply MI.aO
 simp only[MI.n2,aL,aj,zG]
 refine⟨fun _=>False,fun _ h=>h.elim,K6 hw ?_⟩
 unfold mD at hR
 by_cases hl:acc.length<=65536
 ·rw[zX hl]at hR
  have dZ:(acc.length:Int)<=65536:=by omega
  simp only[zt,MI.n1,zL dZ,ap,zD,zF,zC,zI,aL,aj,zG]
  refine⟨SW n0 h,fun id hs _=>.inl (hM id hs),Rn hw (by rw[xZ];omega) hn (fun _ h=>h) fun h' hf iW=>?_⟩
  exact hR h' hf iW
 ·rw[zW hl]at hR
  have dZ:¬(acc.length:Int)<=65536:=by omega
  simp only[zt,MI.n1,zK dZ,ap,zD,zE,zC,zH]
  exact hR h Fr.refl hw
theorem nw{acc s:List UInt8}(ha:acc.length<=90000000)(hs:s.length<=20000000):(mD acc s).length<=90000000:=by
 unfold mD;split
 ·simp only[List.length_append];omega
 ·omega
def ni(d:Nat):List UInt8:=Lib.repeatL [32,32] d
theorem ux(d:Nat):(ni d).length=d*2:=Lib.repeatL_length _ _
theorem Da{d:Nat}(hw:Wr n0 h w rv acc)(ha:acc.length<=90000000)(hd:d<=40)(hn:n0<=h.next)(hM:∀id,SW n0 h id->M id)
  (hR:∀h',Fr h h' (SW n0 h)->Wr n0 h' w rv (mD acc (ni d))->R (.ret (.cP [])) h'):aB Pg 51 [.ptr w 0,I d] h M R:=by
 apply W5.aO
 simp only[W5.n1]
 refine⟨fun _=>False,fun _ h=>h.elim,Ko (s:=bs [32,32]) (by omega) (by rw[xZ];simp) ?_⟩
 refine⟨SW n0 h,fun id hs _=>.inl (hM id hs),tx (s:=ni d) hw (by omega) (by rw[ux];omega) hn (fun _ h=>h) fun h' hf iW=>?_⟩
 exact hR h' hf iW
end
end
section
open Go.Ab
attribute [-simp] aH az
def mH(g:Arg):ByteArray:=bs (ta g)
structure LI (n0:Nat) (h0 h:AH) (w:Nat) (rv:AV) (acc:List UInt8) (vr vs:Nat) (y:Row×AV) (sh:Shape) (x:AV) (ps:List ByteArray):Prop where
 fr:Fr h0 h (SW n0 h0)
 wr:Wr n0 h w rv acc
 ov:h.obj vr=some (aI (ay y) 6 46)
 os:h.obj vs=some (aI sh.enc 4 107)
 ar:cb Arg.enc 2 67 h y.2 y.1.args
 tb:bC oT 1 9 h x ps
 fx:df (h0.next<=·) x
 ht:bS 0 h
section
variable {h0 h h':AH} {n0 w:Nat} {rv:AV} {acc:List UInt8} {vr vs:Nat} {y:Row×AV} {sh:Shape} {x:AV} {ps:List ByteArray}
theorem _root_.Go.Ab.bS.be{g:Nat}{h h':AH}(ht:bS g h)(hf:Fr h h' fun _=>False):bS g h':=bS.fr ht hf fun h=>h
theorem _root_.Go.Ab.bS.H4{g:Nat}{h h':AH}{n0:Nat}(ht:bS g h)(hf:Fr h h' (SW n0 h)):bS g h':=by
 refine bS.fr ht hf ?_
 obtain⟨ty,fz,h0⟩:=ht
 exact SW.ty h0 (show(0:Nat)≠77 by decide) (show(0:Nat)≠5 by decide)
theorem LI.call(i:LI n0 h0 h w rv acc vr vs y sh x ps)(hf:Fr h h' fun _=>False):LI n0 h0 h' w rv acc vr vs y sh x ps:=
 ⟨SW.trans i.fr (SW.bp hf),i.wr.be hf,hf.bI i.ov,hf.bI i.os,i.ar.be hf,i.tb.bp hf (fun _ _ h=>h),i.fx,bS.be i.ht hf⟩
theorem LI.push{K:AV->AH->Prop}{W:Nat->Prop}{s:ByteArray}(i:LI n0 h0 h w rv acc vr vs y sh x ps)(hl:ps.length<=100000000)(hW:∀id,h0.next<=id->W id)
  (hK:∀x' h',LI n0 h0 h' w rv acc vr vs y sh x' (ps++[s])->K x' h') :
  dK (some (1,9,[.string ⟨#[]⟩])) 1 [(0,.sc (.string s))] h fun v h4=>eh (some (1,16,9)) x v h4 W fun v' h5=>K v' h5:=by
 show dK (some (1,9,[.string ⟨#[]⟩])) 1 [(0,.agg (oT s))] h fun v h4=>eh (some (1,16,9)) x v h4 W fun v' h5=>K v' h5
 refine sN (sz:=1) (bytes:=16) (ty:=9) (K:=fun _=>K) (f:=oT) (fun _=>rfl) (by omega) rfl (fun _=>rfl) (by omega) i.tb (fun id off n he=>hW id (i.fx id off n he)) hl fun v x' h' ht hx hf=>?_
 have b7:∀id o,h.obj id=some o->(o.ro=false->o.ty≠9)->¬ ∃off n,x=.sl id off n:=by
  rintro id o ho js ⟨off,n,he⟩
  rcases i.tb with⟨h1,_⟩ |⟨pV,h1,h2⟩
  ·rw[h1]at he;cases he
  ·rw[h1]at he;cases he
   rw[ho]at h2;cases h2
   exact js rfl rfl
 refine hK x' h' ⟨?_,?_,hf.obj i.ov (b7 _ _ i.ov (fun _=>show(46:Nat)≠9 by decide)),hf.obj i.os (b7 _ _ i.os (fun _=>show(107:Nat)≠9 by decide)),?_,ht,?_,?_⟩
 ·refine i.fr.trans (hf.mono ?_)
  rintro id ⟨off,n,he⟩
  exact .inr (i.fx id off n he)
 ·refine i.wr.fr hf fun id o ho js=>b7 id o ho fun _=>?_
  rcases js with js |js<;>rw[js]<;>decide
 ·exact i.ar.fr hf fun id o ho js=>b7 id o ho fun hr=>by rw[js hr];decide
 ·intro id off n he
  exact zR i.fr.next (hx id off n he)
 ·refine bS.fr i.ht hf ?_
  obtain⟨ty,fz,ol⟩:=i.ht
  exact b7 _ _ ol (fun _=>show(0:Nat)≠9 by decide)
end
end
section
open Go.Ab
attribute [-simp] aH az
section
variable {W:Nat->Prop} {QR QN:VK} {QE:Nat->VK} {QP:AV->AH->Prop} {h0 h h':AH} {n0 w:Nat} {rv:AV} {acc:List UInt8} {vr vs:Nat} {y:Row×AV} {sh:Shape} {x:AV} {ps:List ByteArray}
theorem W6(i:LI n0 h0 h w rv acc vr vs y sh x ps)(hl:ps.length<=1000000)(hW:∀id,h0.next<=id->W id)
  (hK:∀x' h',LI n0 h0 h' w rv acc vr vs y sh x' (ps++if y.1.kind=bw then[] else[y.1.kind])->iH.bP W QR QN QE QP (.ptr w 0) (.ptr vr 0) (.ptr vs 0) x' h'):iH.bW W QR QN QE QP (.ptr w 0) (.ptr vr 0) (.ptr vs 0) x h:=by
 by_cases hk:y.1.kind=bw
 ·rw[zX hk,List.append_nil]at hK
  simp[-iH.bP,i.ov,ay,hk,bw]
  exact hK x h i
 ·rw[zW hk]at hK
  unfold bw at hk
  simp[-iH.bP,i.ov,ay,hk]
  exact i.push (by omega) hW hK
theorem W7(i:LI n0 h0 h w rv acc vr vs y sh x ps)(hl:ps.length<=1000000)(hW:∀id,h0.next<=id->W id)
  (hK:∀x' h',LI n0 h0 h' w rv acc vr vs y sh x' (ps++if sh.name then[y.1.name] else[])->iH.bF W QR QN QE QP (.ptr w 0) (.ptr vr 0) (.ptr vs 0) x' h'):iH.bP W QR QN QE QP (.ptr w 0) (.ptr vr 0) (.ptr vs 0) x h:=by
 cases hk:sh.name with
 |false=>
  rw[hk,zW (by decide),List.append_nil]at hK
  simp[-iH.bF,i.ov,i.os,ay,Shape.enc,hk]
  exact hK x h i
 |true=>
  rw[hk,zX rfl]at hK
  simp[-iH.bF,i.ov,i.os,ay,Shape.enc,hk]
  exact i.push (by omega) hW hK
theorem W8(i:LI n0 h0 h w rv acc vr vs y sh x ps)(hl:ps.length<=1000000)(hW:∀id,h0.next<=id->W id)(yH:-9223372036854775808<=y.1.num)(vp:y.1.num<=9223372036854775807)
  (hK:∀x' h',LI n0 h0 h' w rv acc vr vs y sh x' (ps++if sh.num then[bs (Lib.itoa y.1.num)] else[])->iH.ba W QR QN QE QP (.ptr w 0) (.ptr vr 0) (.ptr vs 0) x' h'):iH.bF W QR QN QE QP (.ptr w 0) (.ptr vr 0) (.ptr vs 0) x h:=by
 cases hk:sh.num with
 |false=>
  rw[hk,zW (by decide),List.append_nil]at hK
  simp[-iH.ba,i.ov,i.os,ay,Shape.enc,hk]
  exact hK x h i
 |true=>
  rw[hk,zX rfl]at hK
  simp[-iH.ba,i.ov,i.os,ay,Shape.enc,hk]
  refine⟨fun _=>False,fun _ h=>h.elim,Ce yH vp i.ht ?_⟩
  exact i.push (by omega) hW hK
theorem Pd(i0:LI n0 h0 h w rv acc vr vs y sh x ps)(hl:ps.length<=1000)(hb:uX y.1)(hI:Av y.1)(hW:∀id,h0.next<=id->W id)
  (hK:∀x' h',LI n0 h0 h' w rv acc vr vs y sh x' (ps++y.1.args.map mH)->iH.n3 W QR QN QE QP (.ptr w 0) (.ptr vs 0) x' h'):iH.ba W QR QN QE QP (.ptr w 0) (.ptr vr 0) (.ptr vs 0) x h:=by
 have hlen:=hb.len
 simp only[iH.ba,aj,aF,i0.ov,aA,zG,ay,zB,zA,ab,i0.ar.len.1,i0.ar.len.2,zH]
 unfold iH.bc
 refine cJ (ι:=Nat×AV) (fun z v h'=>v=[.ptr w 0,.ptr vs 0,z.2,y.2,I y.1.args.length,I z.1]/\z.1<=y.1.args.length/\LI n0 h0 h' w rv acc vr vs y sh z.2 (ps++(y.1.args.take z.1).map mH)) (fun z=>y.1.args.length-z.1) (0,x) ?_ ?_
 ·exact⟨rfl,by simp,by simpa using i0⟩
 rintro K ⟨i,xx⟩ v h' ⟨rfl,hi,li⟩ ZM
 simp only at hi li ZM
 simp only[iH.cT,zN,zO]
 by_cases aJ:i<y.1.args.length
 ·have dZ:(i:Int)<y.1.args.length:=by omega
  have g1:y.1.args[i]?=some y.1.args[i]:=zJ aJ
  have gi:=hI _ (List.getElem_mem aJ)
  have gb:=hb.args _ (List.getElem_mem aJ)
  have ht:ps++(y.1.args.take (i+1)).map mH=(ps++(y.1.args.take i).map mH)++[mH y.1.args[i]]:=by
   rw[List.take_succ_eq_append_getElem aJ,List.map_append];simp only[List.map_cons,List.map_nil,List.append_assoc]
  have hw:IntKind.i64.wrap ((i:Int)+1)=((i+1:Nat):Int):=by rw[aX (by omega) (by omega)];simp
  have fin:∀x' h',LI n0 h0 h' w rv acc vr vs y sh x' ((ps++(y.1.args.take i).map mH)++[mH y.1.args[i]])->iH.n4 W QR K (fun(i:Nat) (vs:List AV) (h:AH)=>if i=0 then iH.n3 W QR QN QE QP (vs.getD 0 aa) (vs.getD 1 aa) (vs.getD 2 aa) h else QE i vs h) QP (.ptr w 0) (.ptr vs 0) x' y.2 (I y.1.args.length) (I i) h':=by
   intro x' h2 Uz
   simp only[iH.n4,bg,hw]
   exact ZM (i+1,x') _ _ (by simp only;omega) ⟨rfl,by simp only;omega,by rw[ht];exact Uz⟩
  have jQ:(ps++(y.1.args.take i).map mH).length<=1000000:=by simp;omega
  generalize y.1.args[i]=g at *
  simp only[iH.aZ,bu,zL dZ,iH.n9,ap,zD,zF,zC,zI,iH.n8]
  refine iK li.ar Arg.b8 (Arg.h_ _) g1 rfl rfl (fun id hid=>hW id (zR li.fr.next hid)) fun vn h1 f1 rA ov=>?_
  have HF:=li.call f1
  by_cases hx:g.index<0
  ·have e:mH g=g.name:=by unfold mH ta;rw[zX hx,List.append_nil]
   have UZ:¬0<=g.index:=by omega
   rw[e]at fin
   simp[-iH.n4,ov,Arg.enc,UZ]
   exact HF.push (by omega) hW fin
  ·have UZ:0<=g.index:=by omega
   have e:mH g=g.name++bs [91]++bs (Lib.itoa g.index)++bs [93]:=by
    apply ByteArray.ext;simp[mH,ta,hx,bs,ls]
   have e91:(bs [91]).size=1:=rfl
   have e93:(bs [93]).size=1:=rfl
   have hlen:=Lib.itoa_length_le g.index (by omega) (by omega)
   rw[e]at fin
   simp only[iH.n7,iH.n6,iH.n5,aj,aF,ov,aA,zG,Arg.enc,zB,zA,ab,pb,zL UZ,ge_iff_le,ap,zD,zF,zC,zI,r_]
   refine⟨by show g.name.size+(bs [91]).size<_;omega,fun _=>False,fun _ h=>h.elim,Ce (by omega) (by omega) HF.ht ?_⟩
   simp only[r_]
   have es:(g.name++bs [91]).size=g.name.size+1:=by rw[ByteArray.size_append,e91]
   have es2:(g.name++bs [91]++bs (Lib.itoa g.index)).size=g.name.size+1+(Lib.itoa g.index).length:=by rw[ByteArray.size_append,es];rfl
   refine⟨?_,?_,HF.push (by omega) hW fin⟩
   ·show(g.name++bs [91]).size+(Lib.itoa g.index).length<_
    rw[es];omega
   ·show(g.name++bs [91]++bs (Lib.itoa g.index)).size+(bs [93]).size<_
    rw[es2,e93];omega
 ·have eG:¬(i:Int)<y.1.args.length:=by omega
  rw[List.take_of_length_le (by omega)]at li
  simp only[iH.aZ,bu,zK eG,iH.n9,ap,zD,zE,zC,zH,zV,zN,zO]
  exact hK _ _ li
end
end
section
open Go.Ab
attribute [-simp] aH az
def vX(sh:Shape)(r:Row):List ByteArray:=(((if r.kind=bw then[] else[r.kind])++if sh.name then[r.name] else[])++if sh.num then[bs (Lib.itoa r.num)] else[])++r.args.map mH
def uw(sh:Shape)(r:Row):List UInt8:=Lib.join ((vX sh r).map ls) [32]
def w8(b:Bool):List UInt8:=if b then[32,123,10] else[59,10]
def pI(d:Nat)(sh:Shape)(r:Row)(acc:List UInt8):List UInt8:=mD (mD (mD acc (ni d)) (uw sh r)) (w8 sh.body)
section
variable {h:AH} {M:Nat->Prop} {R:AE->AH->Prop} {n0 w:Nat} {rv:AV} {acc:List UInt8} {y:Row×AV} {sh:Shape}
theorem Sh{d:Nat}(hw:Wr n0 h w rv acc)(ha:acc.length<=90000000)(hd:d<=40)(hn:n0<=h.next)(ht:bS 0 h)(QH:cb Arg.enc 2 67 h y.2 y.1.args)(hb:uX y.1)(hI:Av y.1)(yH:0<=y.1.num)(vp:y.1.num<=9007199254740991)(hJ:(uw sh y.1).length<=20000000)
  (hM:∀id,SW n0 h id->M id) (hR:∀h',Fr h h' (SW n0 h)->Wr n0 h' w rv (pI d sh y.1 acc)->R (.ret (.cP [])) h'):aB Pg 50 [.ptr w 0,.agg (ay y),.agg sh.enc,I d] h M R:=by
 apply iH.aO
 unfold iH.cl
 refine dF (w9 QH) fun vr h1 f1 gN ov=>?_
 refine dF (cs:=sh.enc) (by rfl) fun vs h2 f2 wH os=>?_
 unfold iH.bX
 have f12:=f1.bQ f2
 have Vk:n0<=h2.next:=zR hn f12.next
 have YE:Fr h h2 (SW n0 h):=SW.bp f12
 have AJ:∀{h'},Fr h h' (SW n0 h)->∀id,SW n0 h' id->M id\/h.next<=id:=fun hf id hs=>(SW.back hf hs).imp (hM id) fun h=>h
 refine⟨SW n0 h2,fun id hs _=>AJ YE id hs,Da (hw.be f12) ha hd Vk (fun _ h=>h) fun h3 f3 hw3=>?_⟩
 have s3:=SW.trans YE f3
 have li:LI n0 h h3 w rv (mD acc (ni d)) vr vs y sh aV []:=by
  refine⟨s3,hw3,?_,?_,?_,.nil,(fun _ _ _ he=>by cases he),bS.H4 (bS.be ht f12) f3⟩
  ·exact f3.obj (f2.bI ov) (SW.ty (f2.bI ov) (show(46:Nat)≠77 by decide) (show(46:Nat)≠5 by decide))
  ·exact f3.obj os (SW.ty os (show(107:Nat)≠77 by decide) (show(107:Nat)≠5 by decide))
  ·exact(QH.be f12).fr f3 fun id o ho js=>SW.ro ho fun hr=>by rw[js hr];decide
 simp only[iH.bT]
 have hW:∀id,h.next<=id->M id\/h.next<=id:=fun id hid=>.inr hid
 have a1:(if y.1.kind=bw then[] else[y.1.kind]:List ByteArray).length<=1:=by split<;>simp
 have a2:(if sh.name then[y.1.name] else[]:List ByteArray).length<=1:=by split<;>simp
 have a3:(if sh.num then[bs (Lib.itoa y.1.num)] else[]:List ByteArray).length<=1:=by split<;>simp
 refine W6 li (by simp) hW fun x1 h4 HF=>?_
 rw[List.nil_append]at HF
 refine W7 HF (by omega) hW fun x2 h5 Uz=>?_
 refine W8 Uz (by rw[List.length_append];omega) hW (by omega) (by omega) fun x3 h6 li3=>?_
 refine Pd li3 (by rw[List.length_append,List.length_append];omega) hb hI hW fun x4 h7 Ff=>?_
 have l4:=hb.len
 unfold iH.n3
 have Qj:(vX sh y.1).length<=100000:=by
  unfold vX
  rw[List.length_append,zZ,List.length_append,List.length_append]
  omega
 refine⟨fun _=>False,fun _ h=>h.elim,So (xs:=vX sh y.1) (sep:=bs [32]) Ff.tb Qj (by show(uw sh y.1).length<=_;omega) ?_⟩
 have p1:(mD acc (ni d)).length<=90000000:=nw ha (by rw[ux];omega)
 refine⟨SW n0 h7,fun id hs _=>AJ Ff.fr id hs,tx (s:=uw sh y.1) Ff.wr (by omega) (by omega) (zR hn Ff.fr.next) (fun _ h=>h) fun h8 f8 Lq=>?_⟩
 have p2:=nw p1 hJ
 have YL:=f8.obj Ff.os (SW.ty Ff.os (show(107:Nat)≠77 by decide) (show(107:Nat)≠5 by decide))
 have s8:=SW.trans Ff.fr f8
 have p3:=nw (s:=w8 sh.body) p2 (by unfold w8;split<;>simp)
 unfold pI at hR
 cases Bs:sh.body with
 |true=>
  rw[Bs]at hR
  simp[YL,Shape.enc,Bs]
  refine⟨SW n0 h8,fun id hs _=>AJ s8 id hs,tx (s:=[32,123,10]) Lq (by omega) (by simp) (zR hn s8.next) (fun _ h=>h) fun h9 f9 U1=>?_⟩
  exact hR h9 (SW.trans s8 f9) U1
 |false=>
  rw[Bs]at hR
  simp[YL,Shape.enc,Bs]
  refine⟨SW n0 h8,fun id hs _=>AJ s8 id hs,tx (s:=[59,10]) Lq (by omega) (by simp) (zR hn s8.next) (fun _ h=>h) fun h9 f9 U1=>?_⟩
  exact hR h9 (SW.trans s8 f9) U1
end
end
section
open Go.Ab
attribute [-simp] aH az
theorem qE(k:ByteArray):(eD k).1.body=fu k:=by
 unfold eD fu
 by_cases k1:k=aS
 ·simp[k1,aS,aN,aG,cz]
 by_cases k2:k=bz
 ·simp[k2,aS,bz,aN,aG,cz]
 by_cases k3:k=aN
 ·simp[k3,aS,bz,aN,aG,cz]
 by_cases k4:k=aG
 ·simp[k4,aS,bz,aN,aG,cz]
 by_cases k5:k=cz
 ·simp[k5,aS,bz,aN,aG,cz]
 by_cases k6:k=aQ
 ·simp[k6,aS,bz,aN,aG,cz,aQ]
 by_cases k7:k=bB
 ·simp[k7,aS,bz,aN,aG,cz,aQ,bB]
 by_cases k8:k=bw
 ·simp[k8,aS,bz,aN,aG,cz,aQ,bB,bw]
 simp[k1,k2,k3,k4,k5,k6,k7,k8]
theorem Kf(k:ByteArray):(eD k).1.num=ld k:=by
 unfold eD ld
 by_cases k1:k=aS
 ·simp[k1]
 by_cases k2:k=bz
 ·simp[k2]
 by_cases k3:k=aN
 ·simp[k3,aS,bz,aN,aG,cz]
 by_cases k4:k=aG
 ·simp[k4,aS,bz,aN,aG,cz]
 by_cases k5:k=cz
 ·simp[k5,aS,bz,aN,aG,cz]
 by_cases k6:k=aQ
 ·simp[k6,aS,bz,aN,aG,cz,aQ]
 by_cases k7:k=bB
 ·simp[k7,aS,bz,aN,aG,cz,aQ,bB]
 by_cases k8:k=bw
 ·simp[k8,aS,bz,aN,aG,cz,aQ,bB,bw]
 simp[k1,k2,k3,k4,k5,k6,k7,k8]
theorem Ke:(eD bw).1.name=true:=by simp[eD,aS,bz,aN,aG,cz,aQ,bB,bw]
theorem uv{r:Row}(hr:kf r=true):uw (eD r.kind).1 r=kh r:=by
 unfold kf iC at hr
 simp only[yC]at hr
 obtain⟨⟨⟨⟨⟨⟨⟨_,h1⟩,h2⟩,_⟩,_⟩,_⟩,_⟩,_⟩:=hr
 have h1:(eD r.kind).1.name=fU r.name:=by simpa using h1
 have pJ:Lib.joinTail [32] ((r.args.map mH).map ls)=mq r.args:=by
  unfold Lib.joinTail mq
  generalize r.args=l
  induction l with
  |nil=>rfl
  |cons g l ih=>simp only[List.map_cons,List.flatten_cons,List.flatMap_cons,ih];rfl
 have Eb:∀A B:List (List UInt8),Lib.joinTail [32] (A++B)=Lib.joinTail [32] A++Lib.joinTail [32] B:=fun A B=>by simp[Lib.joinTail]
 have nj:∀s:List UInt8,Lib.joinTail [32] [s]=32::s:=fun s=>by simp[Lib.joinTail]
 have Oc:Lib.joinTail [32] []=[]:=rfl
 unfold uw vX kh nf
 rw[Kf]
 have qo:Lib.joinTail [32] ((if ld r.kind then[bs (Lib.itoa r.num)] else[]:List ByteArray).map ls)=(if ld r.kind then 32::Lib.itoa r.num else[]):=by
  split
  ·simp only[List.map_cons,List.map_nil,nj]
  ·rfl
 by_cases hu:r.kind=bw
 ·rw[zX hu,zX hu,List.nil_append,hu,Ke,zX rfl]
  rw[<-hu]
  simp only[List.map_append,List.map_cons,List.map_nil,List.singleton_append,List.cons_append,List.nil_append]
  rw[Lib.join_cons,Eb,qo,pJ]
  simp only[List.append_assoc]
 ·rw[zW hu,zW hu]
  by_cases hn:r.name=ByteArray.empty
  ·have hp:fU r.name=false:=by
    cases hp:fU r.name with
    |true=>exact absurd hn (oY hp)
    |false=>rfl
   rw[zX hn,h1,hp,zW (by decide),List.append_nil]
   simp only[List.map_append,List.map_cons,List.map_nil,List.singleton_append,List.cons_append,List.nil_append]
   rw[Lib.join_cons,Eb,qo,pJ]
   simp only[List.append_assoc]
  ·have hs:(eD r.kind).1.name=true:=by simpa[hn] using h2
   rw[zW hn,hs,zX rfl]
   simp only[List.map_append,List.map_cons,List.map_nil,List.singleton_append,List.cons_append,List.nil_append]
   rw[Lib.join_cons]
   rw[show(ls r.name::(List.map ls (if ld r.kind=true then[bs (Lib.itoa r.num)] else[])++List.map ls (List.map mH r.args)))=[ls r.name]++(List.map ls (if ld r.kind=true then[bs (Lib.itoa r.num)] else[])++List.map ls (List.map mH r.args)) from rfl,Eb,Eb,nj,qo,pJ]
   simp only[List.append_assoc]
def gU(d:Nat)(rows:List Row)(acc:List UInt8):List UInt8:=
 match rows with
 |[]=>acc
 |r::rest=>gU d (rest.drop r.rows.toNat) (if fu r.kind then mD (mD (gU (d+1) (rest.take r.rows.toNat) (pI d (eD r.kind).1 r acc)) (ni d)) [125,10] else pI d (eD r.kind).1 r acc)
termination_by rows.length
decreasing_by all_goals (simp only[yA,List.length_drop,List.length_cons];omega)
theorem AD{d:Nat}{acc:List UInt8}:gU d [] acc=acc:=by rw[gU]
theorem yg{d:Nat}{r:Row}{rest:List Row}{acc:List UInt8}:gU d (r::rest) acc=gU d (rest.drop r.rows.toNat) (if fu r.kind then mD (mD (gU (d+1) (rest.take r.rows.toNat) (pI d (eD r.kind).1 r acc)) (ni d)) [125,10] else pI d (eD r.kind).1 r acc):=by rw[gU]
theorem yi{r:Row}(hb:uX r)(hI:Av r)(h0:0<=r.num)(h1:r.num<=9007199254740991):(kh r).length<=11000000:=by
 have:=xu hI;have:=hb.all;have:=hb.kind;have:=hb.name
 have e1:(ls r.kind).length=r.kind.size:=rfl
 have e2:(ls r.name).length=r.name.size:=rfl
 have hi:=Lib.itoa_length_le r.num (by omega) (by omega)
 have hb:(nf r).length<=300000:=by
  unfold nf
  split
  ·omega
  ·split
   ·omega
   ·simp only[List.length_append,List.length_cons];omega
 unfold kh
 simp only[List.length_append]
 have:(if ld r.kind=true then 32::Lib.itoa r.num else[]).length<=22:=by split<;>simp<;>omega
 omega
end
section
open Go.Ab
attribute [-simp] aH az
theorem ou.H4{h h':AH}{x:AV}{l:List (Row×AV)}{n0:Nat}(a:ou h x l)(hf:Fr h h' (SW n0 h)):ou h' x l:=
 ⟨a.dQ.fr hf fun id o ho js=>SW.ro ho fun hr=>by rw[js hr];decide,fun y hy=>(a.args y hy).fr hf fun id o ho js=>SW.ro ho fun hr=>by rw[js hr];decide⟩
def B7(d:Nat)(r:Row)(n:Nat):Bool:=kf r&&decide (0<=r.rows)&&decide (r.rows<=n)&&decide (d<=32)&&!(fu r.kind&&decide (d=32))
theorem KV{d:Nat}{r:Row}{rest:List Row}:di d (r::rest)=(B7 d r rest.length&&di (d+1) (rest.take r.rows.toNat)&&di d (rest.drop r.rows.toNat)):=by
 rw[ym]
 unfold B7 mG
 by_cases hd:d<=32
 ·have e:decide (32<=d)=decide (d=32):=by by_cases h:d=32<;>simp[h]<;>omega
  rw[e,zL hd]
  simp only[Bool.true_and,Bool.and_true]
  ac_rfl
 ·rw[zK hd];simp
section
variable {W:Nat->Prop} {QR QN:VK} {QE:Nat->VK} {QP:AV->AH->Prop} {h:AH} {x0:AV} {vr vs:Nat} {y:Row×AV} {sh:Shape} {b:Bool} {i j d:Nat}
theorem Yy{x2 x3 x9:AV}(hv:h.obj vr=some (aI (ay y) 6 46))(hK:eZ.cl W QR QN QE QP x0 x2 x3 x9 (.ptr vr 0) (.ptr vs 0) (B (b||decide (y.1.rows<0))) h):eZ.cL W QR QN QE QP x0 x2 x3 x9 (.ptr vr 0) (.ptr vs 0) (B b) h:=by
 cases b<;>simp[-eZ.cl,hv,ay]at hK ⊢<;>exact hK
theorem Yx{x3:AV}(hi:i<j)(hj:j<=1000000)(hv:h.obj vr=some (aI (ay y) 6 46))(hK:eZ.bT W QR QN QE QP x0 (I j) x3 (I i) (.ptr vr 0) (.ptr vs 0) (B (b||decide (((j-(i+1):Nat):Int)<y.1.rows))) h):eZ.cl W QR QN QE QP x0 (I j) x3 (I i) (.ptr vr 0) (.ptr vs 0) (B b) h:=by
 have wji:IntKind.i64.wrap ((j:Int)-i)=((j-i:Nat):Int):=by rw[aX (by omega) (by omega)];omega
 have aar:IntKind.i64.wrap (((j-i:Nat):Int)-1)=((j-(i+1):Nat):Int):=by rw[aX (by omega) (by omega)];omega
 cases b
 ·simp only[eZ.cl,dW,zT,zE,zD,zC,zI,aj,aF,hv,aA,zG,ay,zB,zA,ab,kO,wji,aar,gA,gt_iff_lt,eZ.bX,c_,if_false]
  simpa[-eZ.bT] using hK
 ·simp[-eZ.bT]at hK ⊢;exact hK
theorem Yw{x2 x9 au ax:AV}(hK:eZ.bN W QR QN QE QP x0 x2 (I d) x9 au ax (B (b||decide (32<d))) h):eZ.bT W QR QN QE QP x0 x2 (I d) x9 au ax (B b) h:=by
 have e:decide ((32:Int)<(d:Int))=decide (32<d):=by by_cases h:32<d<;>simp[h]<;>omega
 cases b
 ·simp only[eZ.bT,dW,zT,zE,zD,zC,zI,gA,gt_iff_lt,e,eZ.bW,c_,if_false]
  simpa[-eZ.bN] using hK
 ·simp[-eZ.bN]at hK ⊢;exact hK
theorem Yv{x2 x9 au:AV}(hs:h.obj vs=some (aI sh.enc 4 107))(hK:eZ.br W QR QN QE QP x0 x2 (I d) x9 au (.ptr vs 0) (B (b||(sh.body&&decide (d=32)))) h):eZ.bN W QR QN QE QP x0 x2 (I d) x9 au (.ptr vs 0) (B b) h:=by
 have e:((d:Int)==32)=decide (d=32):=by by_cases h:d=32<;>simp[h]<;>omega
 cases b
 ·cases hb:sh.body
  ·simp[-eZ.br,hs,Shape.enc,hb]at hK ⊢;exact hK
  ·rw[hb]at hK
   simp only[eZ.bN,dW,zT,zE,zD,zC,zI,aj,aF,hs,aA,zG,Shape.enc,zB,zA,ab,hb,eZ.bP,zS,zF,eO,e,eZ.bM,eZ.bF,c_,zV,if_false]
   simpa[-eZ.br] using hK
 ·simp[-eZ.br]at hK ⊢;exact hK
end
end
section
open Go.Ab
attribute [-simp] aH az
theorem OE(b:Bool):(w8 b).length<=3:=by unfold w8;split<;>simp
theorem NJ{d:Nat}{r:Row}{acc:List UInt8}(hd:d<=40)(ha:acc.length<=90000000)(hr:kf r=true)(hb:uX r)(hI:Av r)(h0:0<=r.num)(h1:r.num<=9007199254740991):(pI d (eD r.kind).1 r acc).length<=90000000:=by
 have:=yi hb hI h0 h1
 have:=OE (eD r.kind).1.body
 unfold pI
 refine nw (nw (nw ha ?_) ?_) (by omega)
 ·rw[ux];omega
 ·rw[uv hr];omega
def WC(n0:Nat)(h:AH)(w:Nat)(x:AV)(ok:Bool)(tf:List UInt8)(Q:AH->Prop):Prop:=
 ∀h' jv,Fr h h' (SW n0 h)->Wr n0 h' w x jv->jv.length<=90000000->(ok=true->jv=tf)->Q h'
section
variable {W:Nat->Prop} {QR QN:VK} {QE:Nat->VK} {QP:AV->AH->Prop} {h:AH} {n0 w:Nat} {x:AV} {acc:List UInt8} {l:List (Row×AV)} {i j d:Nat}
theorem Pp(hx:ou h x l)(hw:Wr n0 h w x acc)(ht:bS 0 h)(ha:acc.length<=90000000)(hB:∀y∈l,uX y.1)(hi:i<j)(hj:j<=l.length)(hl:l.length<=1000000)(hd:d<=33)(hn:n0<=h.next)(hW:∀id,SW n0 h id\/h.next<=id->W id)
  (rec:∀{h:AH}{acc:List UInt8}{M:Nat->Prop}{R:AE->AH->Prop}{i' j' d'},ou h x l->Wr n0 h w x acc->bS 0 h->acc.length<=90000000->i<i'->i'<=j'->j'<=j->d'<=33->n0<=h.next->(∀id,SW n0 h id->M id) ->
   WC n0 h w x (di d' (iU l i' j')) (gU d' (iU l i' j') acc) (R (.ret (B (di d' (iU l i' j')))))->aB Pg 30 [.ptr w 0,I i',I j',I d'] h M R)
  (hf:di d (iU l i j)=false->∀h' jv,Fr h h' (SW n0 h)->Wr n0 h' w x jv->jv.length<=90000000->QR [B false] h')
  (hT:∀k:Nat,di d (iU l (i+1+k) j)=di d (iU l i j)->i+1+k<=j->∀h' jv,gU d (iU l (i+1+k) j) jv=gU d (iU l i j) acc->jv.length<=90000000->Fr h h' (SW n0 h)->Wr n0 h' w x jv->QN [.ptr w 0,I j,I d,I (i+1+k:Nat)] h') :
  eZ.cE W QR QN QE QP (.ptr w 0) (I j) (I d) (I i) h:=by
 have aJ:i<l.length:=by omega
 have g1:l[i]?=some l[i]:=zJ aJ
 rw[Ry hi hj,KV,Rx (by omega) hj]at hf hT
 rw[yg]at hT
 have hb:=hB _ (List.getElem_mem aJ)
 have Qh:=hx.args _ (List.getElem_mem aJ)
 generalize l[i]=y at *
 obtain⟨p,bv,how,_,_⟩:=hw.ex
 simp only[eZ.cE,aL,aj,aF,how,aA,zG,zA,ab]
 refine iK hx.dQ fX (w9 Qh) g1 rfl rfl (fun id hid=>hW id (.inr hid)) fun vr h1 f1 gN ov=>?_
 simp only[eZ.cG,aj,aF,ov,aA,zG,ay,zA,ab]
 refine⟨fun _=>False,fun _ h=>h.elim,AN fun h2 f2=>?_⟩
 simp only[c9,ab,zA,zB]
 have f12:=f1.bQ f2
 refine fV (by rfl) rfl rfl rfl (fun id hid=>hW id (.inr (zR f12.next hid))) fun vs h3 f3 wH os=>?_
 have f13:=f12.bQ f3
 have rp:=(f2.bQ f3).bI ov
 unfold eZ.cN
 refine dX rp rfl fun q=>?_
 refine⟨fun _=>False,fun _ h=>h.elim,Nn (Qh.be f13) (by have:=hb.name;omega) (fun g hg=>by have:=hb.args g hg;omega) (by have:=hb.len;omega) fun h4 f4=>?_⟩
 have f14:=f13.bQ f4
 have yk:=f4.bI rp
 have PN:=f4.bI os
 simp only[d_]
 refine Yy yk (Yx hi (by omega) yk (Yw (Yv PN ?_)))
 have e:((((!kf y.1)||decide (y.1.rows<0))||decide (((j-(i+1):Nat):Int)<y.1.rows))||decide (32<d)||((eD y.1.kind).1.body&&decide (d=32)))=!B7 d y.1 (j-(i+1)):=by
  unfold B7
  rw[qE]
  have e1:decide (y.1.rows<0)=!decide (0<=y.1.rows):=by by_cases hx:y.1.rows<0<;>by_cases hy:0<=y.1.rows<;>simp[hx,hy]<;>omega
  have e2:decide (((j-(i+1):Nat):Int)<y.1.rows)=!decide (y.1.rows<=((j-(i+1):Nat):Int)):=by by_cases hx:((j-(i+1):Nat):Int)<y.1.rows<;>by_cases hy:y.1.rows<=((j-(i+1):Nat):Int)<;>simp only[hx,hy,decide_true,decide_false,zS,zT]<;>omega
  have e3:decide (32<d)=!decide (d<=32):=by by_cases hx:32<d<;>by_cases hy:d<=32<;>simp[hx,hy]<;>omega
  rw[e1,e2,e3]
  simp only[Bool.not_and,Bool.not_or,Bool.not_not]
 rw[e]
 have TK:Fr h h4 (SW n0 h):=SW.bp f14
 cases eA:B7 d y.1 (j-(i+1)) with
 |false=>
  simp
  exact hf (by rw[eA];rfl) h4 acc TK (hw.be f14) ha
 |true=>
  rw[eA,Bool.true_and]at hf hT
  unfold B7 at eA
  simp only[yC,decide_eq_true_eq,Bool.not_eq_true',Bool.and_eq_false_iff,decide_eq_false_iff_not]at eA
  obtain⟨⟨⟨⟨hr,mU⟩,rB⟩,acN⟩,Bs⟩:=eA
  obtain⟨k,hk⟩:∃k:Nat,y.1.rows=k:=⟨y.1.rows.toNat,by omega⟩
  have Vq:i+1+k<=j:=by omega
  rw[hk,zY,Na (by omega),Nb (by omega)]at hf hT
  have lR:mG y.1=true:=by unfold mG;rw[hr,zL mU];rfl
  have Bn:=Cn lR
  have wi:IntKind.i64.wrap ((i:Int)+1)=((i+1:Nat):Int):=by rw[aX (by omega) (by omega)];simp
  have wk:IntKind.i64.wrap (((i+1:Nat):Int)+k)=((i+1+k:Nat):Int):=by rw[aX (by omega) (by omega)];simp
  have wd:IntKind.i64.wrap ((d:Int)+1)=((d+1:Nat):Int):=by rw[aX (by omega) (by omega)];simp
  have AJ:∀{h'},Fr h h' (SW n0 h)->∀id,SW n0 h' id->W id:=fun hf id hs=>hW id (SW.back hf hs)
  simp only[zS,eZ.br,ap,zE,zD,zC,zH,eZ.bc]
  refine dX yk rfl fun q2=>?_
  refine dX PN rfl fun q3=>?_
  have rE:(uw (eD y.1.kind).1 y.1).length<=20000000:=by
   rw[uv hr]
   have:=yi hb Bn.2.2 Bn.1 Bn.2.1
   omega
  refine⟨SW n0 h4,fun id hs _=>AJ TK id hs,Sh (hw.be f14) ha (by omega) (zR hn f14.next) (bS.be ht f14) (Qh.be f14) hb Bn.2.2 Bn.1 Bn.2.1 rE (fun _ h=>h) fun h5 f5 Y7=>?_⟩
  have Zs:=NJ (d:=d) (by omega) ha hr hb Bn.2.2 Bn.1 Bn.2.1
  have Hr:=SW.trans TK f5
  have wu:=f5.obj yk (SW.ty yk (show(46:Nat)≠77 by decide) (show(46:Nat)≠5 by decide))
  have os5:=f5.obj PN (SW.ty PN (show(107:Nat)≠77 by decide) (show(107:Nat)≠5 by decide))
  simp only[eZ.aZ,eZ.n9,aj,aF,wu,os5,aA,zG,ay,Shape.enc,zB,zA,ab,hk,bg,wi,wk,qE]
  cases p5:fu y.1.kind with
  |false=>
   rw[p5,zW (by decide)]at hT
   have LA:k=0:=by
    have hh:=hr
    unfold kf iC at hh
    simp only[yC]at hh
    have h0:=hh.1.2
    rw[qE,p5]at h0
    simp at h0
    omega
   subst LA
   rw[show iU l (i+1) (i+1+0)=[] by unfold iU;rw[Hq (by omega)];rfl,A6,Bool.true_and]at hT
   simp only[eZ.n8,ap,zE,zD,zC,zH,eZ.n2]
   exact hT 0 rfl Vq h5 _ rfl Zs Hr Y7
  |true=>
   rw[p5,zX rfl]at hT
   have acO:d<32:=by
    rcases Bs with nG |nG
    ·rw[p5]at nG;cases nG
    ·omega
   simp only[eZ.n8,ap,zF,zD,zC,zI,eZ.n7,bg,wi,wd]
   refine⟨SW n0 h5,fun id hs _=>AJ Hr id hs,rec (hx.H4 Hr) Y7 (bS.H4 ht Hr) Zs (Nat.lt_succ_self i) (by omega) Vq (by omega) (zR hn Hr.next) (fun _ h=>h) fun h6 acD f6 Y6 sB VD=>?_⟩
   have PI:=SW.trans Hr f6
   simp only[d_]
   cases Ag:di (d+1) (iU l (i+1) (i+1+k)) with
   |false=>
    simp
    exact hf (by rw[Ag];rfl) h6 acD PI Y6 sB
   |true=>
    rw[Ag,Bool.true_and]at hT
    have VD:=VD Ag
    simp only[zS,eZ.n6,ap,zE,zD,zC,zH,eZ.n4]
    refine⟨SW n0 h6,fun id hs _=>AJ PI id hs,Da Y6 sB (by omega) (zR hn PI.next) (fun _ h=>h) fun h7 f7 hw7=>?_⟩
    have TJ:=SW.trans PI f7
    have Qu:=nw (s:=ni d) sB (by rw[ux];omega)
    simp only[eZ.n3]
    refine⟨SW n0 h7,fun id hs _=>AJ TJ id hs,tx (s:=[125,10]) hw7 (by omega) (by simp) (zR hn TJ.next) (fun _ h=>h) fun h8 f8 Lq=>?_⟩
    have s18:=SW.trans TJ f8
    have Zr:=nw (s:=[125,10]) Qu (by simp)
    simp only[eZ.n2]
    rw[VD]at Lq Zr
    exact hT k rfl Vq h8 _ rfl Zr s18 Lq
theorem MX(m:Nat):∀{h:AH}{acc:List UInt8}{M:Nat->Prop}{R:AE->AH->Prop}{i j d:Nat},j-i<m->ou h x l->Wr n0 h w x acc->bS 0 h->acc.length<=90000000->(∀y∈l,uX y.1)->i<=j->j<=l.length->l.length<=1000000->d<=33->n0<=h.next->(∀id,SW n0 h id->M id) ->
  WC n0 h w x (di d (iU l i j)) (gU d (iU l i j) acc) (R (.ret (B (di d (iU l i j)))))->aB Pg 30 [.ptr w 0,I i,I j,I d] h M R:=by
 induction m with
 |zero=>intro h acc M R i j d hm;omega
 |succ m ih=>
  intro h acc M R i j d hm hx hw ht ha hB Zw hj hl hd hn hM hR
  apply eZ.aO
  unfold eZ.dV eZ.dG eZ.cU
  refine cJ (ι:=Nat×List UInt8) (fun z vs h'=>vs=[.ptr w 0,I j,I d,I z.1]/\i<=z.1/\z.1<=j/\Fr h h' (SW n0 h)/\Wr n0 h' w x z.2/\z.2.length<=90000000/\di d (iU l z.1 j)=di d (iU l i j)/\gU d (iU l z.1 j) z.2=gU d (iU l i j) acc) (fun z=>j-z.1) (i,acc) ?_ ?_
  ·exact⟨rfl,zU _,Zw,Fr.refl,hw,ha,rfl,rfl⟩
  rintro K ⟨i',jv⟩ vs h' ⟨rfl,hi1,Vu,hf,iW,FH,he,hs⟩ hK
  simp only at hi1 Vu iW FH he hs hK
  simp only[eZ.cT,zN,zO]
  have Qs:=zR hn hf.next
  by_cases aJ:i'<j
  ·have dZ:(i':Int)<j:=by omega
   simp only[eZ.cX,eZ.cV,bu,zL dZ,ap,zD,zF,zC,zI]
   refine Pp (hx.H4 hf) iW (bS.H4 ht hf) FH hB aJ hj hl hd Qs ?_ ?_ ?_ ?_
   ·rintro id (hid |hid)
    ·exact(SW.back hf hid).imp (hM id) fun h=>h
    ·exact .inr (zR hf.next hid)
   ·intro h2 tf M2 R2 i2 j2 d2 a1 a2 a3 a4 a5 a6 a7 a8 a9 sQ DZ
    exact ih (by omega) a1 a2 a3 a4 hB a6 (by omega) hl a8 a9 sQ DZ
   ·intro h1 h2 tf f2 Df HP
    have:=hR h2 tf (SW.trans hf f2) Df HP (fun ho=>by rw[<-he,h1]at ho;cases ho)
    rw[<-he,h1]at this
    simpa using this
   ·intro k pW vt h2 tf mT HP f2 Df
    exact hK (i'+1+k,tf) _ _ (by simp only;omega) ⟨rfl,by simp only;omega,vt,SW.trans hf f2,Df,HP,by rw[pW,he],by rw[mT,hs]⟩
  ·have eG:¬(i':Int)<j:=by omega
   have e0:iU l i' j=[]:=by unfold iU;rw[Hq (by omega)];rfl
   rw[e0,A6]at he
   rw[e0,AD]at hs
   have:=hR h' jv hf iW FH (fun _=>hs)
   rw[<-he]at this
   simpa[eG] using this
end
end
section
open Go.Ab
attribute [-simp] aH az
def D0(acc T:List UInt8):Prop:=(T.length<=65536->acc=T)/\(65536<T.length->65536<acc.length)
theorem D0.put{acc T s:List UInt8}(h:D0 acc T):D0 (mD acc s) (T++s):=by
 unfold D0 mD at *
 simp only[List.length_append]
 by_cases hT:T.length<=65536
 ·have e:=h.1 hT
  subst e
  rw[zX hT]
  exact⟨fun _=>rfl,fun h=>by simpa using h⟩
 ·have:=h.2 (by omega)
  rw[zW (by omega)]
  exact⟨fun h=>by omega,fun _=>this⟩
theorem Lk(d:Nat):ni (d+1)=ni d++[32,32]:=by
 unfold ni
 induction d with
 |zero=>rfl
 |succ d ih=>
  show[32,32]++Lib.repeatL [32,32] (d+1)=([32,32]++Lib.repeatL [32,32] d)++[32,32]
  rw[ih,List.append_assoc]
theorem IE(n:Nat):∀{d:Nat}{rows:List Row}{acc T:List UInt8},rows.length<n->di d rows=true->D0 acc T->D0 (gU d rows acc) (T++fK (ni d) rows):=by
 induction n with
 |zero=>intro d rows acc T h;omega
 |succ n ih=>
  intro d rows acc T hn cA ht
  cases rows with
  |nil=>rw[AD,vY,List.append_nil];exact ht
  |cons r rest=>
   obtain⟨_,lR,_,_,eL,_,mj⟩:=xM cA
   have hr:kf r=true:=by unfold mG at lR;simp only[yC]at lR;exact lR.1
   rw[yg,tW]
   have hl:D0 (pI d (eD r.kind).1 r acc) (T++ni d++kh r++w8 (fu r.kind)):=by
    unfold pI
    rw[uv hr,qE]
    exact((ht.put).put).put
   simp only[List.length_cons]at hn
   have aJ:(rest.take r.rows.toNat).length<n:=by rw[yA];omega
   have Dl:(rest.drop r.rows.toNat).length<n:=by rw[List.length_drop];omega
   cases p5:fu r.kind with
   |false=>
    rw[p5]at hl
    rw[zW (by decide),zW (by decide)]
    have:=ih Dl mj hl
    simpa only[w8,zW Bool.false_ne_true,List.append_assoc] using this
   |true=>
    rw[p5]at hl
    rw[zX rfl,zX rfl]
    have h1:=ih aJ eL hl
    have h2:=ih Dl mj ((h1.put (s:=ni d)).put (s:=[125,10]))
    rw[Lk]at h2
    simpa only[w8,zX,List.append_assoc] using h2
def II(rows:List Row):List AV:=
 if di 0 rows then(if (gU 0 rows []).length<=65536 then[S (gU 0 rows []),I 0] else[S [],I 1]) else[S [],I 100]
theorem GY(rows:List Row):II rows=rW rows:=by
 unfold II rW
 cases cA:di 0 rows with
 |false=>rfl
 |true=>
  have ht:D0 (gU 0 rows []) (fK [] rows):=IE (rows.length+1) (T:=[]) (by omega) cA ⟨fun _=>rfl,fun h=>h⟩
  rw[zX rfl,zX rfl]
  by_cases hl:(fK [] rows).length<=65536
  ·rw[ht.1 hl]
  ·have:=ht.2 (by omega)
   rw[zW hl,zW (by omega)]
section
variable {h:AH} {M:Nat->Prop} {R:AE->AH->Prop} {x:AV} {l:List (Row×AV)}
theorem Rw(hx:ou h x l)(ht:bS 0 h)(hB:∀y∈l,uX y.1)(hl:l.length<=1000000)
  (hR:∀h',Fr h h' (fun _=>False)->R (.ret (.cP (rW (l.map (·.1))))) h'):aB Pg 18 [x] h M R:=by
 rw[<-GY]at hR
 apply tT.aO
 unfold tT.n9 tT.n8
 have nj:=hx.dQ.one
 have hb:bZ (some ([.slice none 0 0,.pointer none,.slice none 0 0],.inl [(0,1),(1,2)])) [(0,x)] (fun t14=>dS 3 77 t14 h fun t15 mz=>tT.n7 (fun id=>M id\/h.next<=id) (aK Pg [.tmp 2,.tmp 3] R) (aK Pg [.tmp 2,.tmp 3] R) (fun _ _ _=>False) (fun v h=>R (.b6 v) h) x t15 mz)=dS 3 77 (.agg [x,.sc (.pointer none),aV]) h fun t15 mz=>tT.n7 (fun id=>M id\/h.next<=id) (aK Pg [.tmp 2,.tmp 3] R) (aK Pg [.tmp 2,.tmp 3] R) (fun _ _ _=>False) (fun v h=>R (.b6 v) h) x t15 mz:=by
  simp[nj.2]
 rw[hb]
 refine dF (by show(cF x&&(true&&(true&&true)))=true;rw[nj.1];rfl) fun w h1 f1 U2 ow=>?_
 have hw:Wr h.next h1 w x []:=⟨U2,_,_,ow,.inl rfl,.inl ⟨rfl,rfl⟩⟩
 simp only[tT.n7,hx.dQ.len.1,hx.dQ.len.2,zH]
 refine⟨SW h.next h1,fun id hs _=>.inr hs.1,MX (i:=0) (d:=0) (l.length+1) (by omega) (hx.be f1) hw (bS.be ht f1) (by simp) hB (by omega) (zU _) hl (by omega) f1.next (fun _ h=>h) fun h2 tf f2 Df HP ZB=>?_⟩
 rw[TH]at ZB ⊢
 have f12:Fr h h2 (fun _=>False):=f1.trans (f2.mono fun id hs=>.inr hs.1)
 unfold II at hR
 simp only[d_]
 cases cA:di 0 (l.map (·.1)) with
 |false=>
  rw[cA,zW (by decide)]at hR
  simpa using hR h2 f12
 |true=>
  rw[cA,zX rfl]at hR
  rw[<-ZB cA]at hR
  simp only[zS,tT.n6,ap,zE,zD,zC,zH,tT.n4,aL,aj,zG]
  refine⟨fun _=>False,fun _ h=>h.elim,K6 Df ?_⟩
  by_cases hs:tf.length<=65536
  ·rw[zX hs]at hR
   have dZ:¬(65536:Int)<(tf.length:Int):=by omega
   simp only[gA,gt_iff_lt,zK dZ,tT.n3,ap,zE,zD,zC,zH,tT.n1,aL,aj,zG]
   refine⟨SW h.next h2,fun id hs _=>.inr hs.1,SN Df (fun _ h=>h) fun h3 f3=>?_⟩
   exact hR h3 (f12.trans (f3.mono fun id hs=>.inr hs.1))
  ·rw[zW hs]at hR
   have dZ:(65536:Int)<(tf.length:Int):=by omega
   simp only[gA,gt_iff_lt,zL dZ,tT.n3,ap,zF,zD,zC,zI,tT.n2]
   exact hR h2 f12
end
end
end Go.Proofs.YtjehibknlmehmaaGreatDoor
