/- Which operations touch each other; the document's neighbour. No condition. -/
import Derived.Test.YtbdibjgoeeokoaaEa
import Derived.Test.YtbdibjgoeeokoaaGr
import Derived.Test.YtbdibjgoeeokoaaGo
set_option maxRecDepth 100000
namespace Go.Proofs.Ytbdibjgoeeokoaa
section
open Go.Ab
attribute [-simp] eAlloc_d eStore_f
section
variable {h:AH} {M:Nat->Prop} {R:AE->AH->Prop}
theorem inverse_ok{n:ByteArray}(hn:arityT n≠0)(hR:∀h',Fr h h' (fun _=>False)->R (.ret (.tup [Sb (backT n),I 0])) h'):ACalls Try.prog 30 [Sb n] h M R:=by
 apply F30.callsN
 unfold F30.n6 F30.n5
 refine⟨fun _=>False,fun _ h=>h.elim,kinds_ok fun m l h1 ho kr f1=>?_⟩
 refine look_k (enc:=Sb) key9 z135 ho fun _=>?_
 have hg:=kr.get n
 unfold arityT at hn
 cases hf:gateTab.find? (fun x=>decide (x.1=n)) with
 |none=>
  rw[hf]at hn
  exact absurd rfl hn
 |some x=>
  rw[hf]at hg
  obtain⟨c,d,v,hg,h3⟩:=hg
  rw[hg]
  have h4:oneA c=true/\oneA d=true/\oneA v=true:=by simpa only[List.all_cons,List.all_nil,yC,zI] using h3
  simp only[lookV,zV,pExt_tup,zA,zB,cellK_some]
  refine new_var (cs:=[I x.2.1,I x.2.2,c,d,Sb (backT n),v]) (by simp only[List.all_cons,h4.1,h4.2.1,h4.2.2];rfl) rfl rfl rfl (fun id hi=>.inr (zR f1.next hi)) fun vn h2 f2 _ ho2=>?_
  simp only[F30.n4,F30.n3,F30.n1]
  simp
  rw[ho2,ldk_mk]
  exact hR _ (f1.tr0 f2)
end
end
section
open Go.Ab
attribute [-simp] eAlloc_d eStore_f
theorem memB_iff{q:Int}{l:List Int}:memB q l=decide (q∈l):=by
 unfold memB
 cases hi:idxN q l 0 with
 |some j=>simp[(idxN_some hi).2]
 |none=>simp[idxN_none hi]
def touchB(a b:COp):Bool:=a.qubits.any fun q=>decide (q∈b.qubits)
def subB(a b:List Int):Bool:=a.all fun q=>decide (q∈b)
theorem oneO{o:COp}{xa:AV}{h:AH}{l:List Int}(hq:SlR encI 1 3 h xa l):(encO (o,xa)).all oneA=true:=encO_one hq.one.1
end
section
open Go.Ab
attribute [-simp] eAlloc_d eStore_f
def sameB(a b:COp):Bool:=a.kind==1&&b.kind==1&&a.cond==b.cond&&a.mask==b.mask&&a.value==b.value
def alikeB(a b:COp):Bool:=sameB a b&&(subB a.qubits b.qubits&&subB b.qubits a.qubits)
theorem ib4:isBoolT Try.prog 4=true:=by kernel_rfl
theorem pBin_beql{x y c:Bool}{K:AV->Prop}:pBin Try.prog .eql 4 c (B x) (B y) K=K (B (x==y)):=by simp[pBin,ib4]
end
section
open Go.Ab
attribute [-simp] eAlloc_d eStore_f
def bitB(m b:Int):Bool:=IntKind.u64.wrap (BitVec.ofInt IntKind.u64.bits (m.fdiv (2^(min b.toNat IntKind.u64.bits))) &&& BitVec.ofInt IntKind.u64.bits 1).toNat==1
theorem bit_read{m b:Int}{K:AV->Prop}(hb:0<=b):pBin Try.prog .shr 43 false (U m) (I b) (fun t=>pBin Try.prog .and 43 true t (U 1) fun t=>pBin Try.prog .eql 43 true t (U 1) K)=K (B (bitB m b)):=by
 simp[pBin,hb,bitB]
def stopB(a b:COp):Bool:=touchB a b||(b.kind==2&&bitB a.mask b.bit)
def neighGo(a:COp):List COp->Nat->Option Nat
 |[],_=>none
 |b::l,k=>if alikeB a b then some k else if stopB a b then none else neighGo a l (k+1)
def oi:Option Nat->AV
 |some k=>I k
 |none=>I (-1)
def QOK(y:COp×AV):Prop:=y.1.qubits.length<=1000/\0<=y.1.bit
end
end Go.Proofs.Ytbdibjgoeeokoaa
