/- Which operations touch each other; the document's neighbour. No condition. -/
import Derived.Test.YtbdibjgoeeokoaaEa
import Derived.Test.YtbdibjgoeeokoaaGr
import Derived.Test.YtbdibjgoeeokoaaGo
set_option maxRecDepth 100000
namespace Go.Proofs.Ytbdibjgoeeokoaa
section
open Go.Ab
attribute [-simp] eAlloc_d eStore_f
section
variable {h:AH} {M:Nat->Prop} {R:AE->AH->Prop}
theorem inverse_ok{n:ByteArray}(hn:arityT n≠0)(hR:∀h',Fr h h' (fun _=>False)->R (.ret (.tup [Sb (backT n),I 0])) h'):ACalls Try.prog 30 [Sb n] h M R:=by
 apply F30.callsN
 unfold F30.n6 F30.n5
 refine⟨fun _=>False,fun _ h=>h.elim,kinds_ok fun m l h1 ho kr f1=>?_⟩
 refine look_k (enc:=Sb) key9 z135 ho fun _=>?_
 have hg:=kr.get n
 unfold arityT at hn
 cases hf:gateTab.find? (fun x=>decide (x.1=n)) with
 |none=>
  rw[hf]at hn
  exact absurd rfl hn
 |some x=>
  rw[hf]at hg
  obtain⟨c,d,v,hg,h3⟩:=hg
  rw[hg]
  have h4:oneA c=true/\oneA d=true/\oneA v=true:=by simpa only[List.all_cons,List.all_nil,yC,zI] using h3
  simp only[lookV,zV,pExt_tup,zA,zB,cellK_some]
  refine new_var (cs:=[I x.2.1,I x.2.2,c,d,Sb (backT n),v]) (by simp only[List.all_cons,h4.1,h4.2.1,h4.2.2];rfl) rfl rfl rfl (fun id hi=>.inr (zR f1.next hi)) fun vn h2 f2 _ ho2=>?_
  simp only[F30.n4,F30.n3,F30.n1]
  simp
  rw[ho2,ldk_mk]
  exact hR _ (f1.tr0 f2)
theorem refInverse_ok{n:ByteArray}(hn:arityT n≠0)(hR:R (.ret (.tup [Sb (backT n),I 0])) h):ACalls Try.prog 35 [Sb n] h M R:=by
 apply F35.callsN
 by_cases k0:n=⟨#[115]⟩
 ·subst k0
  rw[show backT ⟨#[115]⟩=⟨#[115,100,103]⟩ by decide +kernel]at hR
  simp(decide:=true)
  exact hR
 by_cases k1:n=⟨#[116]⟩
 ·subst k1
  rw[show backT ⟨#[116]⟩=⟨#[116,100,103]⟩ by decide +kernel]at hR
  simp(decide:=true)
  exact hR
 by_cases k2:n=⟨#[118]⟩
 ·subst k2
  rw[show backT ⟨#[118]⟩=⟨#[118,100,103]⟩ by decide +kernel]at hR
  simp(decide:=true)
  exact hR
 by_cases k3:n=⟨#[119]⟩
 ·subst k3
  rw[show backT ⟨#[119]⟩=⟨#[119,100,103]⟩ by decide +kernel]at hR
  simp(decide:=true)
  exact hR
 by_cases k4:n=⟨#[99,115]⟩
 ·subst k4
  rw[show backT ⟨#[99,115]⟩=⟨#[99,115,100,103]⟩ by decide +kernel]at hR
  simp(decide:=true)
  exact hR
 by_cases k5:n=⟨#[105,115,119,97,112]⟩
 ·subst k5
  rw[show backT ⟨#[105,115,119,97,112]⟩=⟨#[105,115,119,97,112,100,103]⟩ by decide +kernel]at hR
  simp(decide:=true)
  exact hR
 by_cases k6:n=⟨#[115,100,103]⟩
 ·subst k6
  rw[show backT ⟨#[115,100,103]⟩=⟨#[115]⟩ by decide +kernel]at hR
  simp(decide:=true)
  refine⟨0,1,rfl,by decide +kernel,by decide +kernel,?_⟩
  rw[show ByteArray.extract ⟨#[115,100,103]⟩ (0:Int).toNat (1:Int).toNat=⟨#[115]⟩ by decide +kernel]
  exact hR
 by_cases k7:n=⟨#[116,100,103]⟩
 ·subst k7
  rw[show backT ⟨#[116,100,103]⟩=⟨#[116]⟩ by decide +kernel]at hR
  simp(decide:=true)
  refine⟨0,1,rfl,by decide +kernel,by decide +kernel,?_⟩
  rw[show ByteArray.extract ⟨#[116,100,103]⟩ (0:Int).toNat (1:Int).toNat=⟨#[116]⟩ by decide +kernel]
  exact hR
 by_cases k8:n=⟨#[118,100,103]⟩
 ·subst k8
  rw[show backT ⟨#[118,100,103]⟩=⟨#[118]⟩ by decide +kernel]at hR
  simp(decide:=true)
  refine⟨0,1,rfl,by decide +kernel,by decide +kernel,?_⟩
  rw[show ByteArray.extract ⟨#[118,100,103]⟩ (0:Int).toNat (1:Int).toNat=⟨#[118]⟩ by decide +kernel]
  exact hR
 by_cases k9:n=⟨#[119,100,103]⟩
 ·subst k9
  rw[show backT ⟨#[119,100,103]⟩=⟨#[119]⟩ by decide +kernel]at hR
  simp(decide:=true)
  refine⟨0,1,rfl,by decide +kernel,by decide +kernel,?_⟩
  rw[show ByteArray.extract ⟨#[119,100,103]⟩ (0:Int).toNat (1:Int).toNat=⟨#[119]⟩ by decide +kernel]
  exact hR
 by_cases k10:n=⟨#[99,115,100,103]⟩
 ·subst k10
  rw[show backT ⟨#[99,115,100,103]⟩=⟨#[99,115]⟩ by decide +kernel]at hR
  simp(decide:=true)
  refine⟨0,2,rfl,by decide +kernel,by decide +kernel,?_⟩
  rw[show ByteArray.extract ⟨#[99,115,100,103]⟩ (0:Int).toNat (2:Int).toNat=⟨#[99,115]⟩ by decide +kernel]
  exact hR
 by_cases k11:n=⟨#[105,115,119,97,112,100,103]⟩
 ·subst k11
  rw[show backT ⟨#[105,115,119,97,112,100,103]⟩=⟨#[105,115,119,97,112]⟩ by decide +kernel]at hR
  simp(decide:=true)
  refine⟨0,5,rfl,by decide +kernel,by decide +kernel,?_⟩
  rw[show ByteArray.extract ⟨#[105,115,119,97,112,100,103]⟩ (0:Int).toNat (5:Int).toNat=⟨#[105,115,119,97,112]⟩ by decide +kernel]
  exact hR
 have e:backT n=n:=by
  unfold backT
  simp only[k0,k1,k2,k3,k4,k5,k6,k7,k8,k9,k10,k11,if_false]
 rw[e]at hR
 simp[k0,k1,k2,k3,k4,k5,k6,k7,k8,k9,k10,k11,-F35.n4]
 unfold F35.n4
 refine⟨fun _=>False,fun _ h=>h.elim,refArity_ok ?_⟩
 simp[hn]
 exact hR
end
end
section
open Go.Ab
attribute [-simp] eAlloc_d eStore_f
theorem memB_iff{q:Int}{l:List Int}:memB q l=decide (q∈l):=by
 unfold memB
 cases hi:idxN q l 0 with
 |some j=>simp[(idxN_some hi).2]
 |none=>simp[idxN_none hi]
def touchB(a b:COp):Bool:=a.qubits.any fun q=>decide (q∈b.qubits)
def subB(a b:List Int):Bool:=a.all fun q=>decide (q∈b)
theorem oneO{o:COp}{xa:AV}{h:AH}{l:List Int}(hq:SlR encI 1 3 h xa l):(encO (o,xa)).all oneA=true:=encO_one hq.one.1
section
variable {h:AH} {M:Nat->Prop} {R:AE->AH->Prop} {a b:COp} {xa xb:AV}
theorem touches_ok{q:Int}(ha:SlR encI 1 3 h xa a.qubits)(hl:a.qubits.length<=9000000000000000000)(hR:∀h',Fr h h' (fun _=>False)->R (.ret (B (decide (q∈a.qubits)))) h'):ACalls Try.prog 73 [.agg (encO (a,xa)),I q] h M R:=by
 apply F73.callsN
 unfold F73.n10
 refine box_var (oneO ha) fun vn h1 f1 hn ho=>?_
 have ha1:=ha.fr0 f1
 have hR:=fun c (e:c=decide (q∈a.qubits))=>e ▸ hR h1 f1
 unfold F73.n9 F73.n8
 refine vLoop_of (ι:=Nat) (fun i v h'=>v=[I q,.ptr vn 0,I i]/\i<=a.qubits.length/\h'=h1/\q∉a.qubits.take i) (fun i=>a.qubits.length-i) 0 ⟨rfl,by omega,rfl,by simp⟩ ?_
 rintro K i v h' ⟨rfl,hi,rfl,he⟩ hK
 simp only[F73.g1_,zN,zO]
 unfold F73.n7
 refine var_fld ho rfl fun _=>?_
 simp only[ha1.len.1,ha1.len.2,zH]
 by_cases hlt:i<a.qubits.length
 ·have hli:(i:Int)<a.qubits.length:=by omega
  have g1:a.qubits[i]?=some a.qubits[i]:=zJ hlt
  have w1:IntKind.i64.wrap ((i:Int)+1)=((i+1:Nat):Int):=by rw[wrap_in (by omega) (by omega)];simp
  simp only[pBin_lss,zL hli,F73.n6,aIf_b,zD,zF,zC,zI]
  unfold F73.n5
  refine var_fld ho rfl fun _=>?_
  refine rng_one ha1 encI_len g1 rfl fun _=>?_
  rw[pBin_eql]
  by_cases e:a.qubits[i]=q
  ·simp only[beq_iff_eq.2 e,F73.n4,aIf_b,zD,zF,zC,zI,F73.n3]
   exact hR true (by rw[zL];exact e ▸ List.getElem_mem hlt)
  ·simp only[beq_eq_false_iff_ne.2 e,F73.n4,aIf_b,zD,zE,zC,zH,F73.n2,pBin_add,w1]
   refine hK (i+1) _ _ (by omega) ⟨rfl,by omega,rfl,?_⟩
   rw[List.take_add_one,g1]
   simp only[Option.toList_some,List.mem_append,List.mem_singleton,not_or]
   exact⟨he,fun h=>e h.symm⟩
 ·have hnl:¬(i:Int)<a.qubits.length:=by omega
  simp only[pBin_lss,zK hnl,F73.n6,aIf_b,zD,zE,zC,zH,zV,F73.n1]
  rw[List.take_of_length_le (by omega)]at he
  exact hR false (by rw[zK he])
theorem shares_ok(ha:SlR encI 1 3 h xa a.qubits)(hb:SlR encI 1 3 h xb b.qubits)(hl:a.qubits.length<=9000000000000000000)(hl2:b.qubits.length<=9000000000000000000)
  (hR:∀h',Fr h h' (fun _=>False)->R (.ret (B (touchB a b))) h'):ACalls Try.prog 54 [.agg (encO (a,xa)),.agg (encO (b,xb))] h M R:=by
 apply F54.callsN
 unfold F54.n10
 refine box_var (oneO ha) fun va h1 f1 hn1 ho1=>?_
 refine box_var (oneO hb) fun vb h2 f2 hn2 ho2=>?_
 have f2:=f1.tr0 f2
 rename_i f2'
 have ho1:=f2'.ob0 ho1
 unfold F54.n9 F54.n8
 refine vLoop_of (ι:=Nat) (fun i v h'=>v=[.ptr va 0,.ptr vb 0,I i]/\i<=a.qubits.length/\Fr h h' (fun _=>False)/\h'.obj va=some (mkO (encO (a,xa)) 7 45)/\h'.obj vb=some (mkO (encO (b,xb)) 7 45)/\∀q∈a.qubits.take i,q∉b.qubits) (fun i=>a.qubits.length-i) 0 ⟨rfl,by omega,f2,ho1,ho2,by simp⟩ ?_
 rintro K i v h3 ⟨rfl,hi,f3,ho1,ho2,he⟩ hK
 have ha1:=ha.fr0 f3
 have hb1:=hb.fr0 f3
 simp only[F54.g1_,zN,zO]
 unfold F54.n7
 refine var_fld ho1 rfl fun _=>?_
 simp only[ha1.len.1,ha1.len.2,zH]
 by_cases hlt:i<a.qubits.length
 ·have hli:(i:Int)<a.qubits.length:=by omega
  have g1:a.qubits[i]?=some a.qubits[i]:=zJ hlt
  have w1:IntKind.i64.wrap ((i:Int)+1)=((i+1:Nat):Int):=by rw[wrap_in (by omega) (by omega)];simp
  simp only[pBin_lss,zL hli,F54.n6,aIf_b,zD,zF,zC,zI]
  unfold F54.n5
  refine var_ld ho2 rfl fun _=>?_
  refine var_fld ho1 rfl fun _=>?_
  refine rng_one ha1 encI_len g1 rfl fun _=>?_
  refine⟨fun _=>False,fun _ h=>h.elim,touches_ok hb1 hl2 fun h4 f4=>?_⟩
  by_cases e:a.qubits[i]∈b.qubits
  ·simp only[zL e,F54.n4,aIf_b,zD,zF,zC,zI,F54.n3]
   have hR:=hR h4 (f3.tr0 f4)
   rw[show touchB a b=true from List.any_eq_true.2 ⟨_,List.getElem_mem hlt,zL e⟩]at hR
   exact hR
  ·simp only[zK e,F54.n4,aIf_b,zD,zE,zC,zH,F54.n2,pBin_add,w1]
   refine hK (i+1) _ _ (by omega) ⟨rfl,by omega,f3.tr0 f4,f4.ob0 ho1,f4.ob0 ho2,fun q hq=>?_⟩
   rw[List.take_add_one,g1]at hq
   simp only[Option.toList_some,List.mem_append,List.mem_singleton]at hq
   rcases hq with hq |rfl
   ·exact he q hq
   ·exact e
 ·have hnl:¬(i:Int)<a.qubits.length:=by omega
  simp only[pBin_lss,zK hnl,F54.n6,aIf_b,zD,zE,zC,zH,zV,F54.n1]
  rw[List.take_of_length_le (by omega)]at he
  have hR:=hR h3 f3
  rw[show touchB a b=false from List.any_eq_false.2 fun q hq=>by simpa using he q hq]at hR
  exact hR
theorem covers_ok(ha:SlR encI 1 3 h xa a.qubits)(hb:SlR encI 1 3 h xb b.qubits)(hl:a.qubits.length<=9000000000000000000)(hl2:b.qubits.length<=9000000000000000000)
  (hR:∀h',Fr h h' (fun _=>False)->R (.ret (B (subB a.qubits b.qubits))) h'):ACalls Try.prog 72 [.agg (encO (a,xa)),.agg (encO (b,xb))] h M R:=by
 apply F72.callsN
 unfold F72.n10
 refine box_var (oneO ha) fun va h1 f1 hn1 ho1=>?_
 refine box_var (oneO hb) fun vb h2 f2 hn2 ho2=>?_
 have f2:=f1.tr0 f2
 rename_i f2'
 have ho1:=f2'.ob0 ho1
 unfold F72.n9 F72.n8
 refine vLoop_of (ι:=Nat) (fun i v h'=>v=[.ptr va 0,.ptr vb 0,I i]/\i<=a.qubits.length/\Fr h h' (fun _=>False)/\h'.obj va=some (mkO (encO (a,xa)) 7 45)/\h'.obj vb=some (mkO (encO (b,xb)) 7 45)/\∀q∈a.qubits.take i,q∈b.qubits) (fun i=>a.qubits.length-i) 0 ⟨rfl,by omega,f2,ho1,ho2,by simp⟩ ?_
 rintro K i v h3 ⟨rfl,hi,f3,ho1,ho2,he⟩ hK
 have ha1:=ha.fr0 f3
 have hb1:=hb.fr0 f3
 simp only[F72.g1_,zN,zO]
 unfold F72.n7
 refine var_fld ho1 rfl fun _=>?_
 simp only[ha1.len.1,ha1.len.2,zH]
 by_cases hlt:i<a.qubits.length
 ·have hli:(i:Int)<a.qubits.length:=by omega
  have g1:a.qubits[i]?=some a.qubits[i]:=zJ hlt
  have w1:IntKind.i64.wrap ((i:Int)+1)=((i+1:Nat):Int):=by rw[wrap_in (by omega) (by omega)];simp
  simp only[pBin_lss,zL hli,F72.n6,aIf_b,zD,zF,zC,zI]
  unfold F72.n5
  refine var_ld ho2 rfl fun _=>?_
  refine var_fld ho1 rfl fun _=>?_
  refine rng_one ha1 encI_len g1 rfl fun _=>?_
  refine⟨fun _=>False,fun _ h=>h.elim,touches_ok hb1 hl2 fun h4 f4=>?_⟩
  by_cases e:a.qubits[i]∈b.qubits
  ·simp only[zL e,pUn_not,zS,F72.n4,aIf_b,zD,zE,zC,zH,F72.n2,pBin_add,w1]
   refine hK (i+1) _ _ (by omega) ⟨rfl,by omega,f3.tr0 f4,f4.ob0 ho1,f4.ob0 ho2,fun q hq=>?_⟩
   rw[List.take_add_one,g1]at hq
   simp only[Option.toList_some,List.mem_append,List.mem_singleton]at hq
   rcases hq with hq |rfl
   ·exact he q hq
   ·exact e
  ·simp only[zK e,pUn_not,zT,F72.n4,aIf_b,zD,zF,zC,zI,F72.n3]
   have hR:=hR h4 (f3.tr0 f4)
   rw[show subB a.qubits b.qubits=false from List.all_eq_false.2 ⟨_,List.getElem_mem hlt,by simpa using e⟩]at hR
   exact hR
 ·have hnl:¬(i:Int)<a.qubits.length:=by omega
  simp only[pBin_lss,zK hnl,F72.n6,aIf_b,zD,zE,zC,zH,zV,F72.n1]
  rw[List.take_of_length_le (by omega)]at he
  have hR:=hR h3 f3
  rw[show subB a.qubits b.qubits=true from List.all_eq_true.2 fun q hq=>by simpa using he q hq]at hR
  exact hR
end
end
section
open Go.Ab
attribute [-simp] eAlloc_d eStore_f
def sameB(a b:COp):Bool:=a.kind==1&&b.kind==1&&a.cond==b.cond&&a.mask==b.mask&&a.value==b.value
def alikeB(a b:COp):Bool:=sameB a b&&(subB a.qubits b.qubits&&subB b.qubits a.qubits)
theorem ib4:isBoolT Try.prog 4=true:=by kernel_rfl
theorem pBin_bneq{x y c:Bool}{K:AV->Prop}:pBin Try.prog .neq 4 c (B x) (B y) K=K (B (!(x==y))):=by simp[pBin,ib4]
theorem pBin_beql{x y c:Bool}{K:AV->Prop}:pBin Try.prog .eql 4 c (B x) (B y) K=K (B (x==y)):=by simp[pBin,ib4]
section
variable {h:AH} {M:Nat->Prop} {R:AE->AH->Prop} {a b:COp} {xa xb:AV}
theorem alike_ok(ha:SlR encI 1 3 h xa a.qubits)(hb:SlR encI 1 3 h xb b.qubits)(hl:a.qubits.length<=9000000000000000000)(hl2:b.qubits.length<=9000000000000000000)
  (hR:∀h',Fr h h' (fun _=>False)->R (.ret (B (alikeB a b))) h'):ACalls Try.prog 53 [.agg (encO (a,xa)),.agg (encO (b,xb))] h M R:=by
 apply F53.callsN
 unfold F53.n16
 refine box_var (oneO ha) fun va h1 f1 hn1 ho1=>?_
 refine box_var (oneO hb) fun vb h2 f2' hn2 ho2=>?_
 have f2:=f1.tr0 f2'
 have ho1:=f2'.ob0 ho1
 have ha1:=ha.fr0 f2
 have hb1:=hb.fr0 f2
 have fin:∀c:Bool,c=sameB a b->F53.n6 (fun id=>M id\/h.next<=id) (retV Try.prog [.tmp 4] R) (retV Try.prog [.tmp 4] R) (fun _ _ _=>False) (fun v h=>R (.pan v) h) (.ptr va 0) (.ptr vb 0) (B !c) h2:=fun c hc=>by
  unfold alikeB at hR
  rw[<-hc]at hR
  cases c with
  |false=>
   have hR:=hR h2 f2
   simp only[F53.n6,zT,aIf_b,zD,zF,zC,zI,F53.n5]
   exact hR
  |true=>
   simp only[F53.n6,zS,aIf_b,zD,zE,zC,zH]
   unfold F53.n4
   refine var_ld ho1 rfl fun _=>?_
   refine var_ld ho2 rfl fun _=>?_
   refine⟨fun _=>False,fun _ h=>h.elim,covers_ok ha1 hb1 hl hl2 fun h3 f3=>?_⟩
   simp only[Bool.true_and]at hR
   cases hs:subB a.qubits b.qubits with
   |false=>
    rw[hs]at hR
    simp[F53.n3,F53.n2,F53.n1]
    exact hR h3 (f2.tr0 f3)
   |true=>
    rw[hs]at hR
    simp only[Bool.true_and]at hR
    have g1:=f3.ob0 ho1
    have g2:=f3.ob0 ho2
    simp only[F53.n3,aIg_b,zD,zS,zF,zC,zI]
    refine var_ld g2 rfl fun _=>?_
    refine var_ld g1 rfl fun _=>?_
    refine⟨fun _=>False,fun _ h=>h.elim,covers_ok (hb1.fr0 f3) (ha1.fr0 f3) hl2 hl fun h4 f4=>?_⟩
    simp[F53.n2,F53.n1]
    exact hR h4 (f2.tr0 (f3.tr0 f4))
 have f9:=fin _ rfl
 unfold sameB at f9
 revert f9
 cases k1:(a.kind==1)<;>cases k2:(b.kind==1)<;>cases k3:(a.cond==b.cond)<;>cases k4:(a.mask==b.mask)<;>cases k5:(a.value==b.value)<;>intro f9 <;>
  simp[-F53.n6,bne,k1,k2,k3,k4,k5]at f9<;>simp[-F53.n6,bne,ho1,ho2,encO,pBin_bneq,k1,k2,k3,k4,k5]<;>exact f9
end
end
section
open Go.Ab
attribute [-simp] eAlloc_d eStore_f
def bitB(m b:Int):Bool:=IntKind.u64.wrap (BitVec.ofInt IntKind.u64.bits (m.fdiv (2^(min b.toNat IntKind.u64.bits))) &&& BitVec.ofInt IntKind.u64.bits 1).toNat==1
theorem bit_read{m b:Int}{K:AV->Prop}(hb:0<=b):pBin Try.prog .shr 43 false (U m) (I b) (fun t=>pBin Try.prog .and 43 true t (U 1) fun t=>pBin Try.prog .eql 43 true t (U 1) K)=K (B (bitB m b)):=by
 simp[pBin,hb,bitB]
def stopB(a b:COp):Bool:=touchB a b||(b.kind==2&&bitB a.mask b.bit)
def neighGo(a:COp):List COp->Nat->Option Nat
 |[],_=>none
 |b::l,k=>if alikeB a b then some k else if stopB a b then none else neighGo a l (k+1)
def oi:Option Nat->AV
 |some k=>I k
 |none=>I (-1)
def QOK(y:COp×AV):Prop:=y.1.qubits.length<=1000/\0<=y.1.bit
section
variable {h:AH} {M:Nat->Prop} {R:AE->AH->Prop} {q b:Int} {x:AV} {l:List (COp×AV)} {j:Nat} {a:COp} {xa:AV}
theorem neighR_ok(hx:OpsL h x l)(hq:∀y∈l,QOK y)(hn:l.length<=1000000)(hj:l[j]?=some (a,xa))
  (hR:∀h',Fr h h' (fun _=>False)->R (.ret (oi (neighGo a ((l.map (·.1)).drop (j+1)) (j+1)))) h'):ACalls Try.prog 34 [.agg [I q,I b,x],I j] h M R:=by
 have hjl:j<l.length:=(zM.1 hj).1
 have hma:=zP hj
 have hqa:=hx.qs _ hma
 have hla:a.qubits.length<=1000:=(hq _ hma).1
 apply F34.callsN
 unfold F34.n19
 refine box_var (cs:=[I q,I b,x]) (by simp only[List.all_cons,hx.tab.one.1];rfl) fun vc h1 f1 hn1 hoc=>?_
 unfold F34.n18
 refine var_fld hoc rfl fun _=>?_
 have hx1:=hx.fr0 f1
 refine rng_var hx1.tab encO_len (oneO (hx1.qs _ hma)) hj rfl rfl (fun id hi=>.inr (zR f1.next hi)) fun va h2 f2 hn2 hoa=>?_
 have f12:=f1.tr0 f2
 have hoc:=f2.ob0 hoc
 unfold F34.n17
 have w1:IntKind.i64.wrap ((j:Int)+1)=((j+1:Nat):Int):=by rw[wrap_in (by omega) (by omega)];simp
 simp only[pBin_add,w1]
 unfold F34.n16
 refine vLoop_of (ι:=Nat) (fun k v h'=>v=[.ptr vc 0,.ptr va 0,I k]/\k<=l.length/\Fr h h' (fun _=>False)/\h'.obj vc=some (mkO [I q,I b,x] 3 24)/\h'.obj va=some (mkO (encO (a,xa)) 7 45) /\
  neighGo a ((l.map (·.1)).drop k) k=neighGo a ((l.map (·.1)).drop (j+1)) (j+1)) (fun k=>l.length-k) (j+1) ⟨rfl,by omega,f12,hoc,hoa,rfl⟩ ?_
 rintro K k v h3 ⟨rfl,hk,f3,hoc,hoa,he⟩ hK
 simp only[F34.g1_,zN,zO]
 unfold F34.n15
 have hx3:=hx.fr0 f3
 refine var_fld hoc rfl fun _=>?_
 simp only[hx3.tab.len.1,hx3.tab.len.2,zH]
 by_cases hlt:k<l.length
 ·have hli:(k:Int)<l.length:=by omega
  obtain⟨⟨o,xo⟩,g1⟩:∃y,l[k]?=some y:=⟨_,zJ hlt⟩
  have hmo:=zP g1
  have hlo:o.qubits.length<=1000/\0<=o.bit:=hq _ hmo
  have gd:(l.map (·.1)).drop k=o::(l.map (·.1)).drop (k+1):=by
   rw[List.drop_eq_getElem_cons (by simpa using hlt)]
   congr 1
   have:=zM.1 g1
   simp[this.2]
  rw[gd]at he
  simp only[neighGo]at he
  have w2:IntKind.i64.wrap ((k:Int)+1)=((k+1:Nat):Int):=by rw[wrap_in (by omega) (by omega)];simp
  simp only[pBin_lss,zL hli,F34.n14,aIf_b,zD,zF,zC,zI]
  unfold F34.n13
  refine var_fld hoc rfl fun _=>?_
  refine rng_var hx3.tab encO_len (oneO (hx3.qs _ hmo)) g1 rfl rfl (fun id hi=>.inr (zR f3.next hi)) fun vo h4 f4 hn4 hoo=>?_
  have hoc:=f4.ob0 hoc
  have hoa:=f4.ob0 hoa
  have f34:=f3.tr0 f4
  have hx4:=hx.fr0 f34
  unfold F34.n12
  refine var_ld hoa rfl fun _=>?_
  refine var_ld hoo rfl fun _=>?_
  refine⟨fun _=>False,fun _ h=>h.elim,alike_ok (hx4.qs _ hma) (hx4.qs _ hmo) (by omega) (by omega) fun h5 f5=>?_⟩
  have hoc:=f5.ob0 hoc
  have hoa:=f5.ob0 hoa
  have hoo:=f5.ob0 hoo
  have f35:=f34.tr0 f5
  have hx5:=hx.fr0 f35
  cases hal:alikeB a o with
  |true=>
   rw[hal,zX rfl]at he
   rw[<-he]at hR
   simp only[F34.n11,aIf_b,zD,zF,zC,zI,F34.n10]
   exact hR h5 f35
  |false=>
   rw[hal,zW (by simp)]at he
   simp only[F34.n11,aIf_b,zD,zE,zC,zH]
   unfold F34.n9
   refine var_ld hoa rfl fun _=>?_
   refine var_ld hoo rfl fun _=>?_
   refine⟨fun _=>False,fun _ h=>h.elim,shares_ok (hx5.qs _ hma) (hx5.qs _ hmo) (by omega) (by omega) fun h6 f6=>?_⟩
   have hoc:=f6.ob0 hoc
   have hoa:=f6.ob0 hoa
   have hoo:=f6.ob0 hoo
   have f36:=f35.tr0 f6
   have fin:∀c:Bool,c=stopB a o->F34.n4 (fun id=>M id\/h.next<=id) (retV Try.prog [.tmp 4] R) K (fun(i:Nat) (_:List AV) (h':AH)=>if i=0 then retV Try.prog [.tmp 4] R [I (-1)] h' else False) (fun v h=>R (.pan v) h) (.ptr vc 0) (.ptr va 0) (I k) (B c) h6:=fun c hc=>by
    rw[<-hc]at he
    cases c with
    |true=>
     rw[zX rfl]at he
     rw[<-he]at hR
     simp only[F34.n4,aIf_b,zD,zF,zC,zI,F34.n3]
     exact hR h6 f36
    |false=>
     rw[zW (by simp)]at he
     simp only[F34.n4,aIf_b,zD,zE,zC,zH,F34.n2,pBin_add,w2]
     exact hK (k+1) _ _ (by omega) ⟨rfl,by omega,f36,hoc,hoa,he⟩
   have f9:=fin _ rfl
   unfold stopB at f9
   revert f9
   cases k1:touchB a o<;>cases k2:(o.kind==2)<;>intro f9 <;>
    simp[-F34.n4,k1,k2]at f9<;>simp[-F34.n4,hoa,hoo,encO,k1,k2]<;>first |exact f9 |(rw[bit_read hlo.2];exact f9)
 ·have hnl:¬(k:Int)<l.length:=by omega
  rw[List.drop_of_length_le (by simp;omega)]at he
  simp only[neighGo]at he
  rw[<-he]at hR
  simp only[pBin_lss,zK hnl,F34.n14,aIf_b,zD,zE,zC,zH,zV,F34.n1]
  exact hR h3 f3
end
end
end Go.Proofs.Ytbdibjgoeeokoaa
