/- The optimizer's neighbour, its four rules, and its step. No condition. -/
import Derived.Test.YtbdibjgoeeokoaaSa
set_option maxRecDepth 100000
namespace Go.Proofs.Ytbdibjgoeeokoaa
section
open Go.Ab
attribute [-simp] eAlloc_d eStore_f
theorem ent85:entOk Try.prog 85=true:=by kernel_rfl
theorem aGo_of{g:Nat}{W:Nat->Prop}{first cap args:List AV}{h:AH}{K KP:AV->AH->Prop}(he:entOk Try.prog g=true)(hp:aCall Try.prog W g (first++args++cap) h K KP):aGo Try.prog W (.fn (.func g) first cap) args h K KP:=by
 unfold aGo;simp only[he];exact hp
theorem sort_same{l m:List Int}(hl:l.Nodup)(hm:m.Nodup):decide (sortI l=sortI m)=(subB l m&&subB m l):=by
 have e:(sortI l=sortI m)↔(∀a,a∈l↔a∈m):=by
  rw[<-List.perm_ext_iff_of_nodup hl hm]
  constructor
  ·intro h
   have h':l.mergeSort (fun x y=>decide (x<=y))=m.mergeSort (fun x y=>decide (x<=y)):=h
   have h2:=List.mergeSort_perm l (fun x y=>decide (x<=y))
   rw[h']at h2
   exact h2.symm.trans (List.mergeSort_perm m _)
  ·intro h
   refine List.Perm.eq_of_pairwise (le:=fun a b=>decide (a<=b)=true) (fun a b _ _ h1 h2=>by simp only[decide_eq_true_eq]at h1 h2;omega) (List.pairwise_mergeSort ?_ ?_ l) (List.pairwise_mergeSort ?_ ?_ m) (((List.mergeSort_perm l _).trans h).trans (List.mergeSort_perm m _).symm)
   ·intro a b c;simp only[decide_eq_true_eq];omega
   ·intro a b;simp only[Bool.or_eq_true,decide_eq_true_eq];omega
   ·intro a b c;simp only[decide_eq_true_eq];omega
   ·intro a b;simp only[Bool.or_eq_true,decide_eq_true_eq];omega
 have e2:(subB l m&&subB m l)=true↔(∀a,a∈l↔a∈m):=by
  simp only[subB,yC,List.all_eq_true,decide_eq_true_eq]
  exact⟨fun h a=>⟨h.1 a,h.2 a⟩,fun h=>⟨fun a=>(h a).1,fun a=>(h a).2⟩⟩
 rw[Bool.eq_iff_iff,decide_eq_true_eq,e,e2]
theorem touch_sym{a b:COp}:touchB a b=b.qubits.any fun q=>memB q a.qubits:=by
 rw[Bool.eq_iff_iff]
 simp only[touchB,List.any_eq_true,decide_eq_true_eq,memB_iff]
 exact⟨fun⟨q,h1,h2⟩=>⟨q,h2,h1⟩,fun⟨q,h1,h2⟩=>⟨q,h2,h1⟩⟩
section
variable {h:AH} {M:Nat->Prop} {R:AE->AH->Prop} {a b:COp} {xa xb:AV} {va:Nat}
theorem idxF_ok(hoa:h.obj va=some (mkO (encO (a,xa)) 7 45))(ha:SlR encI 1 3 h xa a.qubits)(hb:SlR encI 1 3 h xb b.qubits)(hl:a.qubits.length<=1000)(hl2:b.qubits.length<=1000)
  (hR:∀i:Int,decide (0<=i)=touchB a b->R (.ret (I i)) h):ACalls Try.prog 88 [xb,.fn (.func 85) [] [.ptr va 0]] h M R:=by
 apply F88.callsN
 simp only[F88.n11,F88.n10,hb.len.1,hb.len.2,zH]
 unfold F88.n9
 refine vLoop_of (ι:=Nat) (fun i v h'=>v=[xb,.fn (.func 85) [] [.ptr va 0],I b.qubits.length,I i]/\i<=b.qubits.length/\h'=h/\∀q∈b.qubits.take i,memB q a.qubits=false) (fun i=>b.qubits.length-i) 0 ⟨rfl,by omega,rfl,by simp⟩ ?_
 rintro K i v h' ⟨rfl,hi,rfl,he⟩ hK
 simp only[F88.g1_,zN,zO]
 by_cases hlt:i<b.qubits.length
 ·have hli:(i:Int)<b.qubits.length:=by omega
  have g1:b.qubits[i]?=some b.qubits[i]:=zJ hlt
  have w1:IntKind.i64.wrap ((i:Int)+1)=((i+1:Nat):Int):=by rw[wrap_in (by omega) (by omega)];simp
  simp only[F88.n8,pBin_lss,zL hli,F88.n7,aIf_b,zD,zF,zC,zI,F88.n6,F88.n5]
  refine rng_one hb encI_len g1 rfl fun _=>?_
  refine aGo_of ent85 ⟨fun _=>False,fun _ h=>h.elim,?_⟩
  apply F85.callsN
  unfold F85.n2 F85.n1
  refine var_fld hoa rfl fun _=>?_
  refine⟨fun _=>False,fun _ h=>h.elim,contains_int ha (by omega) ?_⟩
  show F88.n4 _ _ _ _ _ _ _ _ _ _ (B (memB b.qubits[i] a.qubits)) _
  cases hm:memB b.qubits[i] a.qubits with
  |true=>
   simp only[F88.n4,aIf_b,zD,zF,zC,zI,F88.n3]
   have ht:touchB a b=true:=by rw[touch_sym,List.any_eq_true];exact⟨_,List.getElem_mem hlt,hm⟩
   simpa using hR i (by rw[ht];simp)
  |false=>
   simp only[F88.n4,aIf_b,zD,zE,zC,zH,F88.n2,pBin_add,w1]
   refine hK (i+1) _ _ (by omega) ⟨rfl,by omega,rfl,fun q hq=>?_⟩
   rw[List.take_add_one,g1]at hq
   simp only[Option.toList_some,List.mem_append,List.mem_singleton]at hq
   rcases hq with hq |rfl
   ·exact he q hq
   ·exact hm
 ·have hnl:¬(i:Int)<b.qubits.length:=by omega
  simp only[F88.n8,pBin_lss,zK hnl,F88.n7,aIf_b,zD,zE,zC,zH,zV,F88.n1]
  rw[List.take_of_length_le (by omega)]at he
  have ht:touchB a b=false:=by rw[touch_sym,List.any_eq_false];intro q hq;rw[he q hq];decide
  simpa using hR (-1) (by rw[ht];rfl)
theorem containsF_ok(hoa:h.obj va=some (mkO (encO (a,xa)) 7 45))(ha:SlR encI 1 3 h xa a.qubits)(hb:SlR encI 1 3 h xb b.qubits)(hl:a.qubits.length<=1000)(hl2:b.qubits.length<=1000)
  (hR:R (.ret (B (touchB a b))) h):ACalls Try.prog 84 [xb,.fn (.func 85) [] [.ptr va 0]] h M R:=by
 apply F84.callsN
 unfold F84.n2 F84.n1
 refine⟨fun _=>False,fun _ h=>h.elim,idxF_ok hoa ha hb hl hl2 fun i hi=>?_⟩
 simp only[pBin_geq,ge_iff_le,hi]
 exact hR
end
end
section
open Go.Ab
attribute [-simp] eAlloc_d eStore_f
def WO(y:COp×AV):Prop:=QOK y/\y.1.qubits.Nodup/\y.1.qubits≠[]
theorem alike_touch{a b:COp}(hne:a.qubits≠[])(h:alikeB a b=true):touchB a b=true:=by
 simp only[alikeB,subB,yC,List.all_eq_true,decide_eq_true_eq]at h
 obtain⟨q,hq⟩:=List.exists_mem_of_ne_nil _ hne
 simp only[touchB,List.any_eq_true,decide_eq_true_eq]
 exact⟨q,hq,h.2.1 q hq⟩
section
variable {h:AH} {M:Nat->Prop} {R:AE->AH->Prop} {x:AV} {l:List (COp×AV)} {j:Nat} {a:COp} {xa:AV}
theorem neighO_ok(hx:OpsL h x l)(hq:∀y∈l,WO y)(hn:l.length<=1000000)(hj:l[j]?=some (a,xa))
  (hR:∀h',Fr h h' (fun _=>False)->R (.ret (oi (if a.kind=1 then neighGo a ((l.map (·.1)).drop (j+1)) (j+1) else none))) h'):ACalls Try.prog 76 [.agg [x],I j] h M R:=by
 have hjl:j<l.length:=(zM.1 hj).1
 have hma:=zP hj
 have hqa:SlR encI 1 3 h xa a.qubits:=hx.qs _ hma
 obtain⟨⟨hla,_⟩,hda,hea⟩:(a.qubits.length<=1000/\0<=a.bit)/\a.qubits.Nodup/\a.qubits≠[]:=hq _ hma
 apply F76.callsN
 unfold F76.n25
 refine box_var (cs:=[x]) (by simp only[List.all_cons,hx.tab.one.1];rfl) fun vc h1 f1 hn1 hoc=>?_
 unfold F76.n24
 refine var_fld hoc rfl fun _=>?_
 have hx1:=hx.fr0 f1
 refine rng_var hx1.tab encO_len (oneO (hx1.qs _ hma)) hj rfl rfl (fun id hi=>.inr (zR f1.next hi)) fun va h2 f2 hn2 hoa=>?_
 have f12:=f1.tr0 f2
 have hoc:=f2.ob0 hoc
 unfold F76.n23
 refine var_fld hoa rfl fun _=>?_
 rw[pBin_neq,int_bne]
 by_cases ka:a.kind=1
 case neg=>
  rw[zW ka]at hR
  simp only[zK ka,zT,F76.n22,aIf_b,zD,zF,zC,zI,F76.n21]
  exact hR h2 f12
 rw[zX ka]at hR
 simp only[zL ka,zS,F76.n22,aIf_b,zD,zE,zC,zH]
 unfold F76.n20
 have w1:IntKind.i64.wrap ((j:Int)+1)=((j+1:Nat):Int):=by rw[wrap_in (by omega) (by omega)];simp
 simp only[pBin_add,w1]
 unfold F76.n19
 refine vLoop_of (ι:=Nat) (fun k v h'=>v=[.ptr vc 0,.ptr va 0,I k]/\k<=l.length/\Fr h h' (fun _=>False)/\h'.obj vc=some (mkO [x] 1 55)/\h'.obj va=some (mkO (encO (a,xa)) 7 45) /\
  neighGo a ((l.map (·.1)).drop k) k=neighGo a ((l.map (·.1)).drop (j+1)) (j+1)) (fun k=>l.length-k) (j+1) ⟨rfl,by omega,f12,hoc,hoa,rfl⟩ ?_
 rintro K k v h3 ⟨rfl,hk,f3,hoc,hoa,he⟩ hK
 simp only[F76.g1_,zN,zO]
 unfold F76.n18
 have hx3:=hx.fr0 f3
 refine var_fld hoc rfl fun _=>?_
 simp only[hx3.tab.len.1,hx3.tab.len.2,zH]
 by_cases hlt:k<l.length
 ·have hli:(k:Int)<l.length:=by omega
  obtain⟨⟨o,xo⟩,g1⟩:∃y,l[k]?=some y:=⟨_,zJ hlt⟩
  have hmo:=zP g1
  obtain⟨⟨hlo,hbo⟩,hdo,heo⟩:(o.qubits.length<=1000/\0<=o.bit)/\o.qubits.Nodup/\o.qubits≠[]:=hq _ hmo
  have gd:(l.map (·.1)).drop k=o::(l.map (·.1)).drop (k+1):=by
   rw[List.drop_eq_getElem_cons (by simpa using hlt)]
   congr 1
   have:=zM.1 g1
   simp[this.2]
  rw[gd]at he
  simp only[neighGo]at he
  have w2:IntKind.i64.wrap ((k:Int)+1)=((k+1:Nat):Int):=by rw[wrap_in (by omega) (by omega)];simp
  simp only[pBin_lss,zL hli,F76.n17,aIf_b,zD,zF,zC,zI]
  unfold F76.n16
  refine var_fld hoc rfl fun _=>?_
  refine rng_var hx3.tab encO_len (oneO (hx3.qs _ hmo)) g1 rfl rfl (fun id hi=>.inr (zR f3.next hi)) fun vo h4 f4 hn4 hoo=>?_
  have hoc:=f4.ob0 hoc
  have hoa:=f4.ob0 hoa
  have f34:=f3.tr0 f4
  have hx4:=hx.fr0 f34
  have qa4:SlR encI 1 3 h4 xa a.qubits:=hx4.qs _ hma
  have qo4:SlR encI 1 3 h4 xo o.qubits:=hx4.qs _ hmo
  unfold F76.n15
  refine var_fld hoo rfl fun _=>?_
  refine⟨fun _=>False,fun _ h=>h.elim,containsF_ok hoa qa4 qo4 hla hlo ?_⟩
  show F76.n14 _ _ _ _ _ _ _ _ _ (B (touchB a o)) _
  unfold F76.n14
  rw[pUn_not]
  cases kt:touchB a o with
  |false=>
   have hal:alikeB a o=false:=by
    cases hh:alikeB a o with
    |false=>rfl
    |true=>rw[alike_touch hea hh]at kt;cases kt
   rw[hal,zW (by simp)]at he
   simp only[zT,F76.n13,aIf_b,zD,zF,zC,zI]
   unfold F76.n12
   refine var_fld hoo rfl fun _=>?_
   rw[pBin_eql]
   have fin:∀c:Bool,c=stopB a o->F76.n9 (fun id=>M id\/h.next<=id) (retV Try.prog [.tmp 4] R) K (fun(i:Nat) (_:List AV) (h':AH)=>if i=0 then retV Try.prog [.tmp 4] R [I (-1)] h' else False) (fun v h=>R (.pan v) h) (.ptr vc 0) (.ptr va 0) (I k) (B c) h4:=fun c hc=>by
    rw[<-hc]at he
    cases c with
    |true=>
     rw[zX rfl]at he
     rw[<-he]at hR
     simp only[F76.n9,aIf_b,zD,zF,zC,zI,F76.n8]
     exact hR h4 f34
    |false=>
     rw[zW (by simp)]at he
     simp only[F76.n9,aIf_b,zD,zE,zC,zH,F76.n7,F76.n2,pBin_add,w2]
     exact hK (k+1) _ _ (by omega) ⟨rfl,by omega,f34,hoc,hoa,he⟩
   have f9:=fin _ rfl
   unfold stopB at f9
   revert f9
   cases k2:(o.kind==2)<;>intro f9 <;>
    simp[-F76.n9,kt,k2]at f9<;>simp[-F76.n9,hoa,hoo,encO,k2]<;>first |exact f9 |(rw[bit_read hbo];exact f9)
  |true=>
   simp only[zS,F76.n13,aIf_b,zD,zE,zC,zH]
   have hst:stopB a o=true:=by simp[stopB,kt]
   rw[hst]at he
   have fin:∀(c:Bool)(h':AH),c=alikeB a o->Fr h h' (fun _=>False)->F76.n5 (fun id=>M id\/h.next<=id) (retV Try.prog [.tmp 4] R) K (fun(i:Nat) (_:List AV) (h':AH)=>if i=0 then retV Try.prog [.tmp 4] R [I (-1)] h' else False) (fun v h=>R (.pan v) h) (I k) (B c) h':=fun c h' hc f'=>by
    rw[<-hc]at he
    cases c with
    |true=>
     rw[zX rfl]at he
     rw[<-he]at hR
     simp only[F76.n5,aIf_b,zD,zF,zC,zI,F76.n4]
     exact hR h' f'
    |false=>
     rw[zW (by simp),zX rfl]at he
     rw[<-he]at hR
     simp only[F76.n5,aIf_b,zD,zE,zC,zH,F76.n3]
     exact hR h' f'
   have ka':(a.kind==1)=true:=by simpa using ka
   unfold F76.n6
   refine⟨fun _=>vo,fun i _=>by rw[hoo];simp,?_⟩
   cases k1:(o.kind==1)<;>cases k3:(a.cond==o.cond)<;>cases k4:(a.mask==o.mask)<;>cases k5:(a.value==o.value) <;>
    simp[-F76.n5,hoa,hoo,encO,pBin_beql,k1,k3,k4,k5]<;>first
     |exact fin false _ (by simp[alikeB,sameB,k1,k3,k4,k5]) f34
     |skip
   refine⟨fun _=>False,fun _ h=>h.elim,set_ok qa4 hea hla fun ya h5 f5 hya=>?_⟩
   refine⟨fun _=>False,fun _ h=>h.elim,set_ok (qo4.fr0 f5) heo hlo fun yo h6 f6 hyo=>?_⟩
   refine⟨fun _=>False,fun _ h=>h.elim,equalI_ok (hya.fr0 f6) hyo (by rw[sortI_len];omega) ?_⟩
   exact fin _ h6 (by rw[sort_same hda hdo];simp[alikeB,sameB,ka,k1,k3,k4,k5]) (f34.tr0 (f5.tr0 f6))
 ·have hnl:¬(k:Int)<l.length:=by omega
  rw[List.drop_of_length_le (by simp;omega)]at he
  simp only[neighGo]at he
  rw[<-he]at hR
  simp only[pBin_lss,zK hnl,F76.n17,aIf_b,zD,zE,zC,zH,zV,F76.n1]
  exact hR h3 f3
end
end
section
open Go.Ab
attribute [-simp] eAlloc_d eStore_f
theorem var_st{h:AH}{W:Nat->Prop}{K:AH->Prop}{cs:List AV}{vn k sz:Nat}{ty:TypeId}{v:AV}(ho:h.obj vn=some (mkO cs sz ty))(hk:k<cs.length)(hv1:oneA v=true)(hv2:avCells v=some [v])(hW:W vn)
  (hK:∀h',Fr h h' (·=vn)->h'.obj vn=some (mkO (cs.set k v) sz ty)->K h'):pFld (some k) (.ptr vn 0) fun t=>eStore (some 1) t v h W K:=by
 simp only[pFld_ptr,eStore_f,ho,hv2,stk_mk,zG]
 refine⟨⟨hW,by simp only[List.all_cons,hv1];rfl,rfl,by omega⟩,hK _ (Fr.refl.put (.inl rfl)) ?_⟩
 rw[put_row ho]
 rfl
def wOne(gone:List Int)(nm:ByteArray)(i:Nat)(y:COp×AV):List (COp×AV):=
 if ((i:Int)==gone.getD 0 0&&!decide (nm=ByteArray.empty))=true then[({ y.1 with name:=nm },y.2)] else if memB (i:Int) gone=true then[] else[y]
def withG(gone:List Int)(nm:ByteArray):List (COp×AV)->Nat->List (COp×AV)
 |[],_=>[]
 |y::l,i=>wOne gone nm i y++withG gone nm l (i+1)
section
variable {h:AH} {M:Nat->Prop} {R:AE->AH->Prop} {x xg:AV} {l:List (COp×AV)} {gone:List Int} {nm:ByteArray}
theorem withO_ok(hx:OpsL h x l)(hg:SlR encI 1 3 h xg gone)(hne:gone≠[])(hgl:gone.length<=1000)(hn:l.length<=1000000)
  (hR:∀y h',Fr h h' (fun _=>False)->SlL encO 7 45 h' y (withG gone nm l 0)->InS (h.next<=·) y->R (.ret y) h'):ACalls Try.prog 75 [.agg [x],Sb nm,xg] h M R:=by
 obtain⟨g0,gr,rfl⟩:=List.exists_cons_of_ne_nil hne
 apply F75.callsN
 unfold F75.n16
 refine box_var (cs:=[x]) (by simp only[List.all_cons,hx.tab.one.1];rfl) fun vc h1 f1 hn1 hoc=>?_
 unfold F75.n15 F75.n14
 refine var_fld hoc rfl fun _=>?_
 have hx1:=hx.fr0 f1
 simp only[hx1.tab.len.1,hx1.tab.len.2,zH]
 unfold F75.n13
 refine vLoop_of (ι:=Nat) (fun k v h'=>∃acc L,v=[Sb nm,xg,acc,x,I l.length,I k]/\k<=l.length/\Fr h h' (fun _=>False)/\SlL encO 7 45 h' acc L/\InS (h.next<=·) acc/\L.length<=k /\
  L++withG (g0::gr) nm (l.drop k) k=withG (g0::gr) nm l 0) (fun k=>l.length-k) 0 ⟨_,_,rfl,by omega,f1,.nil,(fun _ _ _ e=>nomatch e),zU _,rfl⟩ ?_
 rintro K k v h3 ⟨acc,L,rfl,hk,f3,hacc,hin,hL,he⟩ hK
 simp only[F75.g1_,zN,zO]
 have hx3:=hx.fr0 f3
 have hg3:=hg.fr0 f3
 by_cases hlt:k<l.length
 ·have hli:(k:Int)<l.length:=by omega
  obtain⟨⟨o,xo⟩,g1⟩:∃y,l[k]?=some y:=⟨_,zJ hlt⟩
  have hmo:=zP g1
  have qo:SlR encI 1 3 h3 xo o.qubits:=hx3.qs _ hmo
  have gd:l.drop k=(o,xo)::l.drop (k+1):=by
   rw[List.drop_eq_getElem_cons hlt]
   congr 1
   exact(zM.1 g1).2
  rw[gd]at he
  simp only[withG]at he
  have w2:IntKind.i64.wrap ((k:Int)+1)=((k+1:Nat):Int):=by rw[wrap_in (by omega) (by omega)];simp
  simp only[F75.n12,pBin_lss,zL hli,F75.n11,aIf_b,zD,zF,zC,zI]
  unfold F75.n10
  refine rng_var hx3.tab encO_len (oneO qo) g1 rfl rfl (fun id hi=>.inr (zR f3.next hi)) fun vo h4 f4 hn4 hoo=>?_
  have f34:=f3.tr0 f4
  have hg4:=hg.fr0 f34
  have hacc4:SlL encO 7 45 h4 acc L:=hacc.of_fr f4 fun _ _ h=>h
  unfold F75.n9
  have hg0:(g0::gr)[0]?=some g0:=rfl
  refine rng_one (i:=0) hg4 encI_len hg0 rfl fun _=>?_
  rw[pBin_eql]
  have app:∀(o':COp)(h5:AH),Fr h h5 (fun _=>False)->h5.obj vo=some (mkO (encO (o',xo)) 7 45)->SlL encO 7 45 h5 acc L->wOne (g0::gr) nm k (o,xo)=[(o',xo)] ->
    F75.n3 (fun id=>M id\/h.next<=id) (retV Try.prog [.tmp 6] R) K (fun(i:Nat) (vs:List AV) (h':AH)=>if i=0 then retV Try.prog [.tmp 6] R [vs.getD 0 noA] h' else False) (fun v h=>R (.pan v) h) (Sb nm) xg acc (.ptr vo 0) x (I l.length) (I k) h5:=fun o' h5 f5 ho5 ha5 hw=>by
   rw[hw]at he
   unfold F75.n3
   refine var_ld ho5 rfl fun _=>?_
   refine app1t (f:=encO) (t:=(o',xo)) encO_len (by decide) rfl (by decide) (encO_one qo.one.1) ha5 (fun id off n e=>.inr (hin id off n e)) (by omega) fun y h6 hy hiy hfr hnx=>?_
   have f6:Fr h h6 (fun _=>False):=f5.trans (Fr.mono ⟨hnx,fun i hi hs=>hfr i hi fun off n e=>hs ⟨off,n,e⟩⟩ fun id (hs:∃off n,acc=.sl id off n)=>.inr (by obtain⟨off,n,e⟩:=hs;exact hin id off n e))
   simp only[F75.n2,pBin_add,w2]
   exact hK (k+1) _ _ (by omega) ⟨y,_,rfl,by omega,f6,hy,fun id off n e=>zR f5.next (hiy id off n e),by simp;omega,by rw[<-he];simp⟩
  have skip:∀(h5:AH),Fr h h5 (fun _=>False)->SlL encO 7 45 h5 acc L->wOne (g0::gr) nm k (o,xo)=[] ->
    F75.n2 (fun id=>M id\/h.next<=id) (retV Try.prog [.tmp 6] R) K (fun(i:Nat) (vs:List AV) (h':AH)=>if i=0 then retV Try.prog [.tmp 6] R [vs.getD 0 noA] h' else False) (fun v h=>R (.pan v) h) (Sb nm) xg acc x (I l.length) (I k) h5:=fun h5 f5 ha5 hw=>by
   rw[hw]at he
   simp only[F75.n2,pBin_add,w2]
   exact hK (k+1) _ _ (by omega) ⟨acc,L,rfl,by omega,f5,ha5,hin,by omega,by rw[<-he];simp⟩
  have fin:∀c:Bool,c=((k:Int)==g0&&!decide (nm=ByteArray.empty))->F75.n6 (fun id=>M id\/h.next<=id) (retV Try.prog [.tmp 6] R) K (fun(i:Nat) (vs:List AV) (h':AH)=>if i=0 then retV Try.prog [.tmp 6] R [vs.getD 0 noA] h' else False) (fun v h=>R (.pan v) h) (Sb nm) xg acc (I k) (.ptr vo 0) x (I l.length) (I k) (B c) h4:=fun c hc=>by
   cases c with
   |true=>
    simp only[F75.n6,aIf_b,zD,zF,zC,zI]
    refine var_st hoo (by simp[encO]) rfl rfl (.inr (zR f3.next hn4)) fun h5 f5 ho5=>?_
    have f35:Fr h h5 (fun _=>False):=fr_set f34 (zR f3.next hn4) f5
    have ha5:SlL encO 7 45 h5 acc L:=hacc4.of_fr f5 fun id e he2=>by
     have he2:id=vo:=he2
     rcases hacc with⟨a1,_⟩ |⟨id',a1,a2⟩
     ·rw[a1]at e;cases e
     ·rw[a1]at e;cases e
      have:=h3.lt _ _ a2
      omega
    exact app { o with name:=nm } h5 f35 ho5 ha5 (by unfold wOne;rw[zX (by simpa using hc.symm)])
   |false=>
    simp only[F75.n6,aIf_b,zD,zE,zC,zH]
    unfold F75.n5
    refine⟨fun _=>False,fun _ h=>h.elim,contains_int hg4 (by omega) ?_⟩
    show F75.n4 _ _ _ _ _ _ _ _ _ _ _ _ (B (memB (k:Int) (g0::gr))) _
    cases hm:memB (k:Int) (g0::gr) with
    |true=>
     simp only[F75.n4,aIf_b,zD,zF,zC,zI]
     exact skip h4 f34 hacc4 (by unfold wOne;rw[zW (by simpa using hc.symm),zX hm])
    |false=>
     simp only[F75.n4,aIf_b,zD,zE,zC,zH]
     exact app o h4 f34 hoo hacc4 (by unfold wOne;rw[zW (by simpa using hc.symm),zW (by rw[hm];simp)])
  have f9:=fin _ rfl
  have e0:(⟨#[]⟩:ByteArray)=ByteArray.empty:=rfl
  revert f9
  cases k1:((k:Int)==g0)<;>by_cases k2:nm=ByteArray.empty<;>intro f9 <;>
   simp[-F75.n6,k2]at f9<;>simp[-F75.n6,k2,e0]<;>exact f9
 ·have hnl:¬(k:Int)<l.length:=by omega
  rw[List.drop_of_length_le (by omega)]at he
  simp only[withG,List.append_nil]at he
  subst he
  simp only[F75.n12,pBin_lss,zK hnl,F75.n11,aIf_b,zD,zE,zC,zH,zV,F75.n1]
  exact hR acc h3 f3 hacc hin
end
end
section
open Go.Ab
attribute [-simp] eAlloc_d eStore_f
def turnT(n:ByteArray):Int:=if n=⟨#[116]⟩ then 1 else if n=⟨#[115]⟩ then 2 else if n=⟨#[122]⟩ then 4 else if n=⟨#[115,100,103]⟩ then 6 else if n=⟨#[116,100,103]⟩ then 7 else 0
def goodO(n:ByteArray)(a b:List Int):Bool:=
 if n=⟨#[99,122]⟩\/n=⟨#[99,115]⟩\/n=⟨#[99,115,100,103]⟩\/n=⟨#[115,119,97,112]⟩\/n=⟨#[105,115,119,97,112]⟩\/n=⟨#[105,115,119,97,112,100,103]⟩\/n=⟨#[99,99,122]⟩ then true
 else if n=⟨#[99,99,120]⟩ then a.getD 2 0==b.getD 2 0 else if n=⟨#[99,115,119,97,112]⟩ then a.getD 0 0==b.getD 0 0 else decide (a=b)
def RP(R:AE->AH->Prop)(n0:Nat)(res:Option (List (COp×AV)))(h':AH):Prop:=
 match res with
 |none=>R (.ret (.tup [nilS,B false])) h'
 |some L=>∀y,SlL encO 7 45 h' y L->InS (n0<=·) y->R (.ret (.tup [y,B true])) h'
section
variable {h:AH} {M:Nat->Prop} {R:AE->AH->Prop} {x xa xb:AV} {l:List (COp×AV)} {a:COp} {j:Nat} {n:ByteArray} {A C:List Int}
theorem turn_ok(hR:R (.ret (I (turnT n))) h):ACalls Try.prog 78 [Sb n] h M R:=by
 apply F78.callsN
 by_cases k0:n=⟨#[116]⟩
 ·subst k0
  rw[show turnT ⟨#[116]⟩=1 by decide +kernel]at hR
  simp(decide:=true)
  exact hR
 by_cases k1:n=⟨#[115]⟩
 ·subst k1
  rw[show turnT ⟨#[115]⟩=2 by decide +kernel]at hR
  simp(decide:=true)
  exact hR
 by_cases k2:n=⟨#[122]⟩
 ·subst k2
  rw[show turnT ⟨#[122]⟩=4 by decide +kernel]at hR
  simp(decide:=true)
  exact hR
 by_cases k3:n=⟨#[115,100,103]⟩
 ·subst k3
  rw[show turnT ⟨#[115,100,103]⟩=6 by decide +kernel]at hR
  simp(decide:=true)
  exact hR
 by_cases k4:n=⟨#[116,100,103]⟩
 ·subst k4
  rw[show turnT ⟨#[116,100,103]⟩=7 by decide +kernel]at hR
  simp(decide:=true)
  exact hR
 have e:turnT n=0:=by
  unfold turnT
  simp only[k0,k1,k2,k3,k4,if_false]
 rw[e]at hR
 simp[k0,k1,k2,k3,k4]
 exact hR
def idleP(l:List (COp×AV))(j:Nat)(a:COp):Option (List (COp×AV)):=if a.kind=1/\a.name=⟨#[105]⟩ then some (withG [(j:Int)] ByteArray.empty l 0) else none
theorem idle_ok(hx:OpsL h x l)(hn:l.length<=1000000)(hj:l[j]?=some (a,xa))(hR:∀h',Fr h h' (fun _=>False)->RP R h.next (idleP l j a) h'):ACalls Try.prog 60 [.agg [x],I j] h M R:=by
 apply F60.callsN
 unfold F60.n7
 refine box_var (cs:=[x]) (by simp only[List.all_cons,hx.tab.one.1];rfl) fun vc h1 f1 hn1 hoc=>?_
 have hx1:=hx.fr0 f1
 have fin:∀c:Bool,c=!decide (a.kind=1/\a.name=⟨#[105]⟩)->F60.n3 (fun id=>M id\/h.next<=id) (retV Try.prog [.tmp 4,.tmp 5] R) (retV Try.prog [.tmp 4,.tmp 5] R) (fun _ _ _=>False) (fun v h=>R (.pan v) h) (I j) (.ptr vc 0) (B c) h1:=fun c hc=>by
  cases c with
  |true=>
   have hR:=hR h1 f1
   have hc':¬(a.kind=1/\a.name=⟨#[105]⟩):=fun hh=>by rw[zL hh]at hc;cases hc
   rw[idleP,zW hc']at hR
   simp only[F60.n3,aIf_b,zD,zF,zC,zI,F60.n2]
   exact hR
  |false=>
   rw[idleP,zX (by simpa using hc)]at hR
   simp only[F60.n3,aIf_b,zD,zE,zC,zH]
   unfold F60.n1
   refine var_ld hoc rfl fun _=>?_
   refine bsl_new (cells:=[I j]) ⟨rfl,rfl⟩ fun z h2 f2 hz hoz=>?_
   have f12:=f1.tr0 f2
   refine⟨fun _=>False,fun _ h=>h.elim,withO_ok (gone:=[(j:Int)]) (hx.fr0 f12) (.inr (.inr ⟨z,[],false,3,rfl,fun _=>rfl,hoz⟩)) (by simp) (by simp) hn fun y h3 f3 hy hi=>?_⟩
   exact hR h3 (f12.tr0 f3) y hy fun id off n e=>zR f12.next (hi id off n e)
 unfold F60.n6
 refine var_fld hoc rfl fun _=>?_
 refine rng_fld hx1.tab encO_len hj (by decide) (v:=I a.kind) rfl fun _=>?_
 rw[pBin_neq,int_bne]
 unfold F60.n5
 by_cases k1:a.kind=1
 ·simp only[zL k1,zS,zT,aIg_b,eq_self,zD,zE,zF,zC,zH,zI]
  refine var_fld hoc rfl fun _=>?_
  refine rng_fld hx1.tab encO_len hj (by decide) (v:=Sb a.name) rfl fun _=>?_
  rw[pBin_sneq]
  have f9:=fin _ rfl
  by_cases k2:a.name=⟨#[105]⟩
  ·simp[-F60.n3,k1,k2]at f9
   simp[-F60.n3,k2]
   exact f9
  ·simp[-F60.n3,k1,k2]at f9
   simp[-F60.n3,k2]
   exact f9
 ·have f9:=fin _ rfl
  simp[-F60.n3,k1]at f9
  simp[-F60.n3,k1]
  exact f9
end
end
section
open Go.Ab
attribute [-simp] eAlloc_d eStore_f
theorem getD_some{A:List Int}{i:Nat}(hi:i<A.length):A[i]?=some (A.getD i 0):=by
 rw[List.getD_eq_getElem?_getD,zJ hi];rfl
section
variable {h:AH} {M:Nat->Prop} {R:AE->AH->Prop} {xa xb:AV} {n:ByteArray} {A C:List Int}
theorem alikeO_ok(hA:SlR encI 1 3 h xa A)(hC:SlR encI 1 3 h xb C)(hl:A.length<=1000)(h3:n=⟨#[99,99,120]⟩\/n=⟨#[99,115,119,97,112]⟩->3<=A.length/\3<=C.length)(hR:R (.ret (B (goodO n A C))) h):ACalls Try.prog 77 [Sb n,xa,xb] h M R:=by
 apply F77.callsN
 by_cases k0:n=⟨#[99,122]⟩
 ·subst k0
  rw[show goodO ⟨#[99,122]⟩ A C=true by unfold goodO;rw[zX (by decide)]]at hR
  simp(decide:=true)
  exact hR
 by_cases k1:n=⟨#[99,115]⟩
 ·subst k1
  rw[show goodO ⟨#[99,115]⟩ A C=true by unfold goodO;rw[zX (by decide)]]at hR
  simp(decide:=true)
  exact hR
 by_cases k2:n=⟨#[99,115,100,103]⟩
 ·subst k2
  rw[show goodO ⟨#[99,115,100,103]⟩ A C=true by unfold goodO;rw[zX (by decide)]]at hR
  simp(decide:=true)
  exact hR
 by_cases k3:n=⟨#[115,119,97,112]⟩
 ·subst k3
  rw[show goodO ⟨#[115,119,97,112]⟩ A C=true by unfold goodO;rw[zX (by decide)]]at hR
  simp(decide:=true)
  exact hR
 by_cases k4:n=⟨#[105,115,119,97,112]⟩
 ·subst k4
  rw[show goodO ⟨#[105,115,119,97,112]⟩ A C=true by unfold goodO;rw[zX (by decide)]]at hR
  simp(decide:=true)
  exact hR
 by_cases k5:n=⟨#[105,115,119,97,112,100,103]⟩
 ·subst k5
  rw[show goodO ⟨#[105,115,119,97,112,100,103]⟩ A C=true by unfold goodO;rw[zX (by decide)]]at hR
  simp(decide:=true)
  exact hR
 by_cases k6:n=⟨#[99,99,122]⟩
 ·subst k6
  rw[show goodO ⟨#[99,99,122]⟩ A C=true by unfold goodO;rw[zX (by decide)]]at hR
  simp(decide:=true)
  exact hR
 have e:goodO n A C=(if n=⟨#[99,99,120]⟩ then A.getD 2 0==C.getD 2 0 else if n=⟨#[99,115,119,97,112]⟩ then A.getD 0 0==C.getD 0 0 else decide (A=C)):=by
  unfold goodO;rw[zW (by simp only[k0,k1,k2,k3,k4,k5,k6,or_self,not_false_eq_true])]
 rw[e]at hR
 by_cases k8:n=⟨#[99,99,120]⟩
 ·have⟨l1,l2⟩:=h3 (.inl k8)
  subst k8
  rw[zX rfl]at hR
  simp(decide:=true) [-F77.n3]
  unfold F77.n3
  refine rng_one (i:=2) hA encI_len (getD_some (by omega)) rfl fun _=>?_
  refine rng_one (i:=2) hC encI_len (getD_some (by omega)) rfl fun _=>?_
  rw[pBin_eql]
  exact hR
 rw[zW k8]at hR
 by_cases k9:n=⟨#[99,115,119,97,112]⟩
 ·have⟨l1,l2⟩:=h3 (.inr k9)
  subst k9
  rw[zX rfl]at hR
  simp(decide:=true) [-F77.n4]
  unfold F77.n4
  refine rng_one (i:=0) hA encI_len (getD_some (by omega)) rfl fun _=>?_
  refine rng_one (i:=0) hC encI_len (getD_some (by omega)) rfl fun _=>?_
  rw[pBin_eql]
  exact hR
 rw[zW k9]at hR
 simp[k0,k1,k2,k3,k4,k5,k6,k8,k9,-F77.n1]
 unfold F77.n1
 refine⟨fun _=>False,fun _ h=>h.elim,equalI_ok hA hC (by omega) ?_⟩
 exact hR
end
end
section
open Go.Ab
attribute [-simp] eAlloc_d eStore_f
section
variable {α:Type} {f:α->List AV} {sz:Nat} {ty:TypeId} {h:AH} {x:AV} {l:List α} {i:Nat} {y:α}
theorem rng_row(hl:SlR f sz ty h x l)(hf:∀y,(f y).length=sz)(hi:l[i]?=some y):∃id,h.obj id≠none/\∀{j:Nat}{z:α}{K:AV->Nat->Prop},l[j]?=some z->K (.agg (f z)) id ->
  pIxA (some (sz,none)) x (.sc (.int .i64 j)) fun t=>lLd (some true) (some sz) t h K:=by
 obtain⟨id,cells,ro,ty',rfl,ho,_,_,_⟩:=hl.at_ hf hi
 refine⟨id,by rw[ho];simp,fun{j z K} hj hK=>?_⟩
 obtain⟨id2,cells2,ro2,ty2,e,ho2,h1,h2,_⟩:=hl.at_ hf hj
 cases e
 have hlt:j<l.length:=(zM.1 hj).1
 simp only[pIxA_sl,lLdn_f,ho2,ldnk_mk,zG,zY]
 refine⟨⟨by omega,by omega⟩,h2,?_⟩
 rw[h1];exact hK
theorem two_vars{W1 W2:Nat->Prop}{K:AV->AV->AH->Prop}{z:List Value}{c1 c2:List AV}(o1:c1.all oneA=true)(o2:c2.all oneA=true)(n1:c1.length=sz)(n2:c2.length=sz)(hz:z.all (·.oneCell')=true)(hn:z.length=sz)
  (hW1:∀id,h.next<=id->W1 id) (hW2:∀id,h.next<=id->W2 id)
  (hK:∀v1 v2 h',Fr h h' (fun _=>False)->h'.obj v1=some (mkO c1 sz ty)->h'.obj v2=some (mkO c2 sz ty)->h.next<=v1->h.next<=v2->K (.ptr v1 0) (.ptr v2 0) h') :
  eAlloc (some z) sz ty h fun p1 h1=>eAlloc (some z) sz ty h1 fun p2 h2=>eStore (some sz) p1 (.agg c1) h2 W1 fun h3=>eStore (some sz) p2 (.agg c2) h3 W2 fun h4=>K p1 p2 h4:=by
 have a1:=AH.alloc_new h (mkO (z.map AV.sc) sz ty)
 have a2:=AH.alloc_new (h.alloc (mkO (z.map AV.sc) sz ty)) (mkO (z.map AV.sc) sz ty)
 have f1:Fr h (h.alloc (mkO (z.map AV.sc) sz ty)) (fun _=>False):=Fr.refl.alloc _
 have f2:Fr (h.alloc (mkO (z.map AV.sc) sz ty)) ((h.alloc (mkO (z.map AV.sc) sz ty)).alloc (mkO (z.map AV.sc) sz ty)) (fun _=>False):=Fr.refl.alloc _
 have a1':=f2.ob0 a1
 have e1:(h.alloc (mkO (z.map AV.sc) sz ty)).next=h.next+1:=rfl
 generalize hg:(h.alloc (mkO (z.map AV.sc) sz ty))=g at *
 generalize hk:g.alloc (mkO (z.map AV.sc) sz ty)=k at *
 have a3:=put_row (off:=0) (cs:=c1) a1'
 simp only[eAlloc_d,hg,hk,eStore_f,a1',avC_agg,stk_mk]
 refine⟨hz,hz,⟨hW1 _ (zU _),o1,n1,by simp[hn]⟩,?_⟩
 have f3:Fr k (k.put h.next 0 c1) (·=h.next):=Fr.refl.put (.inl rfl)
 have a2':(k.put h.next 0 c1).obj g.next=some (mkO (z.map AV.sc) sz ty):=f3.obj a2 (by omega)
 simp only[a2',stk_mk]
 refine⟨⟨hW2 _ (by omega),o2,n2,by simp[hn]⟩,?_⟩
 have f4:Fr (k.put h.next 0 c1) ((k.put h.next 0 c1).put g.next 0 c2) (·=g.next):=Fr.refl.put (.inl rfl)
 refine hK _ _ _ (fr_set (fr_set (f1.tr0 f2) (zU _) f3) (by omega) f4) ?_ ?_ (zU _) (by omega)
 ·rw[f4.obj a3 (by omega)]
  congr 1
  simp only[mkO]
  congr 1
  exact aFill_one (by simp[hn,n1])
 ·rw[put_row a2']
  congr 1
  simp only[mkO]
  congr 1
  exact aFill_one (by simp[hn,n2])
theorem two_vars2{W1 W2:Nat->Prop}{K:AV->AV->AH->Prop}{z:List Value}{c1 c2:List AV}(o1:c1.all oneA=true)(o2:c2.all oneA=true)(n1:c1.length=sz)(n2:c2.length=sz)(hz:z.all (·.oneCell')=true)(hn:z.length=sz)
  (hW1:∀id,h.next<=id->W1 id) (hW2:∀id,h.next<=id->W2 id)
  (hK:∀v1 v2 h',Fr h h' (fun _=>False)->h'.obj v1=some (mkO c1 sz ty)->h'.obj v2=some (mkO c2 sz ty)->h.next<=v1->h.next<=v2->K (.ptr v1 0) (.ptr v2 0) h') :
  eAlloc (some z) sz ty h fun p1 h1=>eAlloc (some z) sz ty h1 fun p2 h2=>eStore (some sz) p2 (.agg c1) h2 W1 fun h3=>eStore (some sz) p1 (.agg c2) h3 W2 fun h4=>K p2 p1 h4:=by
 have a1:=AH.alloc_new h (mkO (z.map AV.sc) sz ty)
 have a2:=AH.alloc_new (h.alloc (mkO (z.map AV.sc) sz ty)) (mkO (z.map AV.sc) sz ty)
 have f1:Fr h (h.alloc (mkO (z.map AV.sc) sz ty)) (fun _=>False):=Fr.refl.alloc _
 have f2:Fr (h.alloc (mkO (z.map AV.sc) sz ty)) ((h.alloc (mkO (z.map AV.sc) sz ty)).alloc (mkO (z.map AV.sc) sz ty)) (fun _=>False):=Fr.refl.alloc _
 have a1':=f2.ob0 a1
 have e1:(h.alloc (mkO (z.map AV.sc) sz ty)).next=h.next+1:=rfl
 generalize hg:(h.alloc (mkO (z.map AV.sc) sz ty))=g at *
 generalize hk:g.alloc (mkO (z.map AV.sc) sz ty)=k at *
 have a3:=put_row (off:=0) (cs:=c1) a2
 simp only[eAlloc_d,hg,hk,eStore_f,a2,avC_agg,stk_mk]
 refine⟨hz,hz,⟨hW1 _ (by omega),o1,n1,by simp[hn]⟩,?_⟩
 have f3:Fr k (k.put g.next 0 c1) (·=g.next):=Fr.refl.put (.inl rfl)
 have a2':(k.put g.next 0 c1).obj h.next=some (mkO (z.map AV.sc) sz ty):=f3.obj a1' (by omega)
 simp only[a2',stk_mk]
 refine⟨⟨hW2 _ (zU _),o2,n2,by simp[hn]⟩,?_⟩
 have f4:Fr (k.put g.next 0 c1) ((k.put g.next 0 c1).put h.next 0 c2) (·=h.next):=Fr.refl.put (.inl rfl)
 refine hK _ _ _ (fr_set (fr_set (f1.tr0 f2) (by omega) f3) (zU _) f4) ?_ ?_ (by omega) (zU _)
 ·rw[f4.obj a3 (by omega)]
  congr 1
  simp only[mkO]
  congr 1
  exact aFill_one (by simp[hn,n1])
 ·rw[put_row a2']
  congr 1
  simp only[mkO]
  congr 1
  exact aFill_one (by simp[hn,n2])
end
end
section
open Go.Ab
attribute [-simp] eAlloc_d eStore_f
def nbr(l:List (COp×AV))(j:Nat)(a:COp):Option Nat:=if a.kind=1 then neighGo a ((l.map (·.1)).drop (j+1)) (j+1) else none
theorem neighGo_in{a:COp}:∀{l:List COp}{k i:Nat},neighGo a l k=some i->k<=i/\∃b,l[i-k]?=some b/\alikeB a b=true
 |[],_,_,h=>by simp[neighGo]at h
 |b::l,k,i,h=>by
  simp only[neighGo]at h
  split at h
  ·rename_i e;cases h;exact⟨zU _,b,by simp,e⟩
  ·split at h
   ·cases h
   ·obtain⟨h1,c,h2,h3⟩:=neighGo_in h
    exact⟨by omega,c,by rw[show i-k=(i-(k+1))+1 by omega];simpa using h2,h3⟩
theorem nbr_in{l:List (COp×AV)}{j k:Nat}{a:COp}(h:nbr l j a=some k):∃b xb,l[k]?=some (b,xb)/\alikeB a b=true/\j<k/\a.kind=1:=by
 unfold nbr at h
 split at h
 ·rename_i ka
  obtain⟨h1,b,h2,h3⟩:=neighGo_in h
  rw[List.getElem?_drop,show j+1+(k-(j+1))=k by omega,List.getElem?_map]at h2
  cases hk:l[k]? with
  |none=>rw[hk]at h2;cases h2
  |some y=>
   obtain⟨b',xb⟩:=y
   rw[hk]at h2
   cases h2
   exact⟨_,xb,rfl,h3,by omega,ka⟩
 ·cases h
def undoP(l:List (COp×AV))(j:Nat)(a:COp):Option (List (COp×AV)):=
 match nbr l j a with
 |none=>none
 |some k=>match l[k]? with
  |none=>none
  |some y=>if backT a.name=y.1.name/\goodO a.name a.qubits y.1.qubits=true then some (withG [(j:Int),(k:Int)] ByteArray.empty l 0) else none
theorem alike_len{a b:COp}(hda:a.qubits.Nodup)(hdb:b.qubits.Nodup)(h:alikeB a b=true):a.qubits.length=b.qubits.length:=by
 have h1:(subB a.qubits b.qubits&&subB b.qubits a.qubits)=true:=by
  unfold alikeB at h
  exact(Bool.and_eq_true_iff.1 h).2
 rw[<-sort_same hda hdb,decide_eq_true_eq]at h1
 have:=congrArg List.length h1
 rwa [sortI_len,sortI_len]at this
def AO1(y:COp×AV):Prop:=y.1.kind=1->arityT y.1.name=y.1.qubits.length/\arityT y.1.name≠0
section
variable {h:AH} {M:Nat->Prop} {R:AE->AH->Prop} {x xa:AV} {l:List (COp×AV)} {a:COp} {j:Nat}
theorem undo_ok(hx:OpsL h x l)(hq:∀y∈l,WO y)(ha1:∀y∈l,AO1 y)(hn:l.length<=1000000)(hj:l[j]?=some (a,xa))(hR:∀h',Fr h h' (fun _=>False)->RP R h.next (undoP l j a) h'):ACalls Try.prog 61 [.agg [x],I j] h M R:=by
 have hma:=zP hj
 obtain⟨⟨hla,_⟩,hda,hea⟩:(a.qubits.length<=1000/\0<=a.bit)/\a.qubits.Nodup/\a.qubits≠[]:=hq _ hma
 apply F61.callsN
 unfold F61.n13
 refine box_var (cs:=[x]) (by simp only[List.all_cons,hx.tab.one.1];rfl) fun vc h1 f1 hn1 hoc=>?_
 have hx1:=hx.fr0 f1
 unfold F61.n12
 refine var_ld hoc rfl fun _=>?_
 refine⟨fun _=>False,fun _ h=>h.elim,neighO_ok hx1 hq hn hj fun h2 f2=>?_⟩
 have f12:=f1.tr0 f2
 have hx2:=hx.fr0 f12
 have hoc:=f2.ob0 hoc
 show F61.n11 _ _ _ _ _ _ _ (oi (nbr l j a)) _
 cases hk:nbr l j a with
 |none=>
  have hR:=hR h2 f12
  simp only[undoP,hk]at hR
  simp[F61.n11,F61.n10,F61.n9,oi]
  exact hR
 |some k=>
  obtain⟨b,xb,hb,hal,hjk,ka⟩:=nbr_in hk
  have hmb:=zP hb
  obtain⟨⟨hlb,_⟩,hdb,heb⟩:(b.qubits.length<=1000/\0<=b.bit)/\b.qubits.Nodup/\b.qubits≠[]:=hq _ hmb
  have hk0:¬(k:Int)<0:=by omega
  simp only[oi,F61.n11,pBin_lss,zK hk0,F61.n10,aIf_b,zD,zE,zC,zH]
  unfold F61.n8
  obtain⟨ir,hir,hrd⟩:=rng_row hx2.tab encO_len hj
  refine⟨fun i=>if i=6 then vc else ir,fun i _=>by by_cases e:i=6<;>simp[e,hoc,hir],?_⟩
  have n7:∀va vb h3,Fr h h3 (fun _=>False)->h3.obj va=some (mkO (encO (a,xa)) 7 45)->h3.obj vb=some (mkO (encO (b,xb)) 7 45)->h3.obj vc=some (mkO [x] 1 55) ->
    F61.n7 (fun id=>M id\/h.next<=id) (retV Try.prog [.tmp 4,.tmp 5] R) (retV Try.prog [.tmp 4,.tmp 5] R) (fun _ _ _=>False) (fun v h=>R (.pan v) h) (I j) (.ptr vc 0) (I k) (.ptr va 0) (.ptr vb 0) h3:=by
   intro va vb h3 f3 hva hvb hvc
   have hx3:=hx.fr0 f3
   obtain⟨ar1,ar2⟩:arityT a.name=a.qubits.length/\arityT a.name≠0:=ha1 _ hma ka
   unfold F61.n7
   refine var_fld hva rfl fun _=>?_
   refine⟨fun _=>False,fun _ h=>h.elim,inverse_ok ar2 fun h4 f4=>?_⟩
   simp only[pExt_tup,zA,zB,cellK_some]
   have hva:=f4.ob0 hva
   have hvb:=f4.ob0 hvb
   have hvc:=f4.ob0 hvc
   have f34:=f3.tr0 f4
   have hx4:=hx.fr0 f34
   have qa:SlR encI 1 3 h4 xa a.qubits:=hx4.qs _ hma
   have qb:SlR encI 1 3 h4 xb b.qubits:=hx4.qs _ hmb
   have fin:∀c:Bool,c=!decide (backT a.name=b.name/\goodO a.name a.qubits b.qubits=true)->F61.n3 (fun id=>M id\/h.next<=id) (retV Try.prog [.tmp 4,.tmp 5] R) (retV Try.prog [.tmp 4,.tmp 5] R) (fun _ _ _=>False) (fun v h=>R (.pan v) h) (I j) (.ptr vc 0) (I k) (B c) h4:=fun c hc=>by
    cases c with
    |true=>
     have hR:=hR h4 f34
     have hc':¬(backT a.name=b.name/\goodO a.name a.qubits b.qubits=true):=fun hh=>by rw[zL hh]at hc;cases hc
     simp only[undoP,hk,hb,zW hc']at hR
     simp only[F61.n3,aIf_b,zD,zF,zC,zI,F61.n2]
     exact hR
    |false=>
     have hc':backT a.name=b.name/\goodO a.name a.qubits b.qubits=true:=by
      by_cases hh:backT a.name=b.name/\goodO a.name a.qubits b.qubits=true
      ·exact hh
      ·rw[zK hh]at hc;cases hc
     simp only[undoP,hk,hb,zX hc']at hR
     simp only[F61.n3,aIf_b,zD,zE,zC,zH]
     unfold F61.n1
     refine var_ld hvc rfl fun _=>?_
     refine bsl_new (cells:=[I j,I k]) ⟨rfl,rfl⟩ fun z h5 f5 hz hoz=>?_
     have f35:=f34.tr0 f5
     refine⟨fun _=>False,fun _ h=>h.elim,withO_ok (gone:=[(j:Int),(k:Int)]) (hx.fr0 f35) (.inr (.inr ⟨z,[],false,3,rfl,fun _=>rfl,hoz⟩)) (by simp) (by simp) hn fun y h6 f6 hy hi=>?_⟩
     exact hR h6 (f35.tr0 f6) y hy fun id off n e=>zR f35.next (hi id off n e)
   unfold F61.n6
   refine var_fld hvb rfl fun _=>?_
   rw[pBin_sneq]
   unfold F61.n5
   by_cases e1:backT a.name=b.name
   ·simp only[zL e1,zS,zT,aIg_b,eq_self,zD,zE,zF,zC,zH,zI]
    refine var_fld hva rfl fun _=>?_
    refine var_fld hva rfl fun _=>?_
    refine var_fld hvb rfl fun _=>?_
    refine⟨fun _=>False,fun _ h=>h.elim,alikeO_ok qa qb hla (fun hnm=>?_) ?_⟩
    ·have:=alike_len hda hdb hal
     have h3:arityT a.name=3:=by rcases hnm with e |e<;>rw[e]<;>decide +kernel
     omega
    ·have f9:=fin _ rfl
     cases hg:goodO a.name a.qubits b.qubits with
     |true=>
      simp[-F61.n3,e1,hg]at f9
      simp[-F61.n3]
      exact f9
     |false=>
      simp[-F61.n3,hg]at f9
      simp[-F61.n3]
      exact f9
   ·have f9:=fin _ rfl
    simp[-F61.n3,e1]at f9
    simp[-F61.n3,e1]
    exact f9
  refine var_fld hoc rfl fun _=>?_
  refine rng_at hx2.tab encO_len hj fun _=>?_
  simp only[pFld_ptr,lLd_f,hoc,ldk_mk,zG,zA,cellK_some]
  refine⟨rfl,hrd hb ⟨rfl,?_⟩⟩
  have hlt1:=h2.lt _ _ hoc
  have hlt2:=AH.lt' hir
  have hW1:∀id,h2.next<=id->banL (fun id=>M id\/h.next<=id) (fun i=>if i=6 then vc else ir) [6,9] id:=fun id hi=>⟨.inr (zR f12.next hi),fun i hi2=>by
   by_cases e:i=6
   ·simp only[e,zV];omega
   ·simp only[e,if_false];omega⟩
  have qa2:SlR encI 1 3 h2 xa a.qubits:=hx2.qs _ hma
  have qb2:SlR encI 1 3 h2 xb b.qubits:=hx2.qs _ hmb
  refine⟨two_vars (oneO qa2) (oneO qb2) rfl rfl rfl rfl hW1 (fun id hi=>.inr (zR f12.next hi)) fun va vb h3 f3 hva hvb _ _=>n7 va vb h3 (f12.tr0 f3) hva hvb (f3.ob0 hoc),
   two_vars2 (oneO qa2) (oneO qb2) rfl rfl rfl rfl hW1 (fun id hi=>.inr (zR f12.next hi)) fun va vb h3 f3 hva hvb _ _=>n7 va vb h3 (f12.tr0 f3) hva hvb (f3.ob0 hoc),trivial⟩
end
end
section
open Go.Ab
attribute [-simp] eAlloc_d eStore_f
def flipP(l:List (COp×AV))(j:Nat)(a:COp):Option (List (COp×AV)):=
 if a.kind=1/\a.name=⟨#[104]⟩ then
  match nbr l j a with
  |none=>none
  |some k=>match l[k]? with
   |none=>none
   |some y=>match nbr l k y.1 with
    |none=>none
    |some m=>match l[m]? with
     |none=>none
     |some z=>if z.1.name=⟨#[104]⟩ then if y.1.name=⟨#[120]⟩ then some (withG [(j:Int),(k:Int),(m:Int)] ⟨#[122]⟩ l 0) else if y.1.name=⟨#[122]⟩ then some (withG [(j:Int),(k:Int),(m:Int)] ⟨#[120]⟩ l 0) else none else none
 else none
section
variable {h:AH} {M:Nat->Prop} {R:AE->AH->Prop} {x xa:AV} {l:List (COp×AV)} {a:COp} {j:Nat}
theorem flip4_ok(hx:OpsL h x l)(hq:∀y∈l,WO y)(hn:l.length<=1000000)(hj:l[j]?=some (a,xa))(hR:∀h',Fr h h' (fun _=>False)->RP R h.next (flipP l j a) h'):ACalls Try.prog 63 [.agg [x],I j] h M R:=by
 apply F63.callsN
 unfold F63.n24
 refine box_var (cs:=[x]) (by simp only[List.all_cons,hx.tab.one.1];rfl) fun vc h1 f1 hn1 hoc=>?_
 have hx1:=hx.fr0 f1
 have fin:∀c:Bool,c=!decide (a.kind=1/\a.name=⟨#[104]⟩)->F63.n20 (fun id=>M id\/h.next<=id) (retV Try.prog [.tmp 4,.tmp 5] R) (retV Try.prog [.tmp 4,.tmp 5] R) (fun _ _ _=>False) (fun v h=>R (.pan v) h) (I j) (.ptr vc 0) (B c) h1:=fun c hc=>by
  cases c with
  |true=>
   have hR:=hR h1 f1
   have hc':¬(a.kind=1/\a.name=⟨#[104]⟩):=fun hh=>by rw[zL hh]at hc;cases hc
   rw[flipP,zW hc']at hR
   simp only[F63.n20,aIf_b,zD,zF,zC,zI,F63.n19]
   exact hR
  |false=>
   have hc':a.kind=1/\a.name=⟨#[104]⟩:=by
    by_cases hh:a.kind=1/\a.name=⟨#[104]⟩
    ·exact hh
    ·rw[zK hh]at hc;cases hc
   rw[flipP,zX hc']at hR
   simp only[F63.n20,aIf_b,zD,zE,zC,zH]
   unfold F63.n18
   refine var_ld hoc rfl fun _=>?_
   refine⟨fun _=>False,fun _ h=>h.elim,neighO_ok hx1 hq hn hj fun h2 f2=>?_⟩
   have f12:=f1.tr0 f2
   have hoc:=f2.ob0 hoc
   have hx2:=hx.fr0 f12
   show F63.n17 _ _ _ _ _ _ _ (oi (nbr l j a)) _
   cases hk:nbr l j a with
   |none=>
    have hR:=hR h2 f12
    simp only[hk]at hR
    simp[F63.n17,F63.n16,F63.n15,oi]
    exact hR
   |some k=>
    obtain⟨b,xb,hb,_,hjk,ka⟩:=nbr_in hk
    have hk0:¬(k:Int)<0:=by omega
    simp only[hk,hb]at hR
    simp only[oi,F63.n17,pBin_lss,zK hk0,F63.n16,aIf_b,zD,zE,zC,zH]
    unfold F63.n14
    refine var_ld hoc rfl fun _=>?_
    refine⟨fun _=>False,fun _ h=>h.elim,neighO_ok hx2 hq hn hb fun h3 f3=>?_⟩
    have f13:=f12.tr0 f3
    have hoc:=f3.ob0 hoc
    have hx3:=hx.fr0 f13
    show F63.n13 _ _ _ _ _ _ _ _ (oi (nbr l k b)) _
    cases hm:nbr l k b with
    |none=>
     have hR:=hR h3 f13
     simp only[hm]at hR
     simp[F63.n13,F63.n12,F63.n11,F63.n10,F63.n9,oi]
     exact hR
    |some m=>
     obtain⟨z,xz,hz,_,hkm,kb⟩:=nbr_in hm
     have hm0:¬(m:Int)<0:=by omega
     simp only[hm,hz]at hR
     simp only[oi,F63.n13,pBin_lss,zK hm0]
     unfold F63.n12
     simp only[aIg_b,zT,eq_self,zD,zE,zF,zC,zH,zI]
     refine var_fld hoc rfl fun _=>?_
     refine rng_fld hx3.tab encO_len hz (by decide) (v:=Sb z.name) rfl fun _=>?_
     rw[pBin_sneq]
     by_cases kz:z.name=⟨#[104]⟩
     ·simp only[zX kz]at hR
      simp only[zL kz,zS]
      have go:F63.n8 (fun id=>M id\/h.next<=id) (retV Try.prog [.tmp 4,.tmp 5] R) (retV Try.prog [.tmp 4,.tmp 5] R) (fun _ _ _=>False) (fun v h=>R (.pan v) h) (I j) (.ptr vc 0) (I k) (I m) h3:=by
       unfold F63.n8
       refine var_fld hoc rfl fun _=>?_
       refine rng_fld hx3.tab encO_len hb (by decide) (v:=Sb b.name) rfl fun _=>?_
       unfold F63.n7
       rw[pBin_seql]
       by_cases k2:b.name=⟨#[120]⟩
       ·simp only[zX k2]at hR
        simp only[zL k2,F63.n6,aIf_b,zD,zF,zC,zI]
        unfold F63.n2
        refine var_ld hoc rfl fun _=>?_
        refine bsl_new (cells:=[I j,I k,I m]) ⟨rfl,rfl⟩ fun z h5 f5 hz hoz=>?_
        have f35:=f13.tr0 f5
        refine⟨fun _=>False,fun _ h=>h.elim,withO_ok (gone:=[(j:Int),(k:Int),(m:Int)]) (hx.fr0 f35) (.inr (.inr ⟨z,[],false,3,rfl,fun _=>rfl,hoz⟩)) (by simp) (by simp) hn fun y h6 f6 hy hi=>?_⟩
        exact hR h6 (f35.tr0 f6) y hy fun id off n e=>zR f35.next (hi id off n e)
       ·simp only[zW k2]at hR
        simp only[zK k2,F63.n6,aIf_b,zD,zE,zC,zH]
        unfold F63.n5
        rw[pBin_seql]
        by_cases k3:b.name=⟨#[122]⟩
        ·simp only[zX k3]at hR
         simp only[zL k3,F63.n4,aIf_b,zD,zF,zC,zI]
         unfold F63.n3
         refine var_ld hoc rfl fun _=>?_
         refine bsl_new (cells:=[I j,I k,I m]) ⟨rfl,rfl⟩ fun z h5 f5 hz hoz=>?_
         have f35:=f13.tr0 f5
         refine⟨fun _=>False,fun _ h=>h.elim,withO_ok (gone:=[(j:Int),(k:Int),(m:Int)]) (hx.fr0 f35) (.inr (.inr ⟨z,[],false,3,rfl,fun _=>rfl,hoz⟩)) (by simp) (by simp) hn fun y h6 f6 hy hi=>?_⟩
         exact hR h6 (f35.tr0 f6) y hy fun id off n e=>zR f35.next (hi id off n e)
        ·simp only[zW k3]at hR
         simp only[zK k3,F63.n4,aIf_b,zD,zE,zC,zH,F63.n1]
         exact hR h3 f13
      simp[-F63.n8]
      exact go
     ·simp only[zW kz]at hR
      simp[kz,F63.n11,F63.n10,F63.n9]
      exact hR h3 f13
 unfold F63.n23
 refine var_fld hoc rfl fun _=>?_
 refine rng_fld hx1.tab encO_len hj (by decide) (v:=I a.kind) rfl fun _=>?_
 rw[pBin_neq,int_bne]
 unfold F63.n22
 by_cases k1:a.kind=1
 ·simp only[zL k1,zS,zT,aIg_b,eq_self,zD,zE,zF,zC,zH,zI]
  refine var_fld hoc rfl fun _=>?_
  refine rng_fld hx1.tab encO_len hj (by decide) (v:=Sb a.name) rfl fun _=>?_
  rw[pBin_sneq]
  have f9:=fin _ rfl
  by_cases k2:a.name=⟨#[104]⟩
  ·simp[-F63.n20,k1,k2]at f9
   simp[-F63.n20,k2]
   exact f9
  ·simp[-F63.n20,k1,k2]at f9
   simp[-F63.n20,k2]
   exact f9
 ·have f9:=fin _ rfl
  simp[-F63.n20,k1]at f9
  simp[-F63.n20,k1]
  exact f9
end
end
end Go.Proofs.Ytbdibjgoeeokoaa
namespace Go.Proofs
open Go.RowKit Go.Shelf
attribute [local go_sem] Oper.semAt_some
theorem Try.u115:Try.prog.underlying 115=some (.array 8 9):=by kernel_rfl
set_option maxHeartbeats 1000000 in
theorem Try.turning0(w:World):Calls Try.prog 79 #[.int .i64 0] w fun e w'=>e=.returned (.string ⟨#[]⟩)/\w'=w:=by
 have hu:=fun w=>run_underlying Try.u115 (w:=w)
 have hs:=Try.sizeOf9
 have ha:=Try.isAgg9
 refine(callsIn_wide (n:=1)).1 ?_
 refine callsIn_of_wp Try.func79 rfl trivial ?_ rfl
 simp only[Try.ntmps79,List.size_toArray,List.length_cons,List.length_nil,Nat.reduceAdd,Nat.reduceSub,Array.replicate_succ,Array.replicate_zero,List.push_toArray,List.append_toArray,List.nil_append,List.cons_append]
 gi_wp2
 simp[Instr.index,asIntOf,part,go_sem,hu,hs,ha]
 gi_wp2
 go_ret
 exact⟨rfl,rfl⟩
set_option maxHeartbeats 1000000 in
theorem Try.turning1(w:World):Calls Try.prog 79 #[.int .i64 1] w fun e w'=>e=.returned (.string ⟨#[116]⟩)/\w'=w:=by
 have hu:=fun w=>run_underlying Try.u115 (w:=w)
 have hs:=Try.sizeOf9
 have ha:=Try.isAgg9
 refine(callsIn_wide (n:=1)).1 ?_
 refine callsIn_of_wp Try.func79 rfl trivial ?_ rfl
 simp only[Try.ntmps79,List.size_toArray,List.length_cons,List.length_nil,Nat.reduceAdd,Nat.reduceSub,Array.replicate_succ,Array.replicate_zero,List.push_toArray,List.append_toArray,List.nil_append,List.cons_append]
 gi_wp2
 simp[Instr.index,asIntOf,part,go_sem,hu,hs,ha]
 gi_wp2
 go_ret
 exact⟨rfl,rfl⟩
set_option maxHeartbeats 1000000 in
theorem Try.turning2(w:World):Calls Try.prog 79 #[.int .i64 2] w fun e w'=>e=.returned (.string ⟨#[115]⟩)/\w'=w:=by
 have hu:=fun w=>run_underlying Try.u115 (w:=w)
 have hs:=Try.sizeOf9
 have ha:=Try.isAgg9
 refine(callsIn_wide (n:=1)).1 ?_
 refine callsIn_of_wp Try.func79 rfl trivial ?_ rfl
 simp only[Try.ntmps79,List.size_toArray,List.length_cons,List.length_nil,Nat.reduceAdd,Nat.reduceSub,Array.replicate_succ,Array.replicate_zero,List.push_toArray,List.append_toArray,List.nil_append,List.cons_append]
 gi_wp2
 simp[Instr.index,asIntOf,part,go_sem,hu,hs,ha]
 gi_wp2
 go_ret
 exact⟨rfl,rfl⟩
set_option maxHeartbeats 1000000 in
theorem Try.turning3(w:World):Calls Try.prog 79 #[.int .i64 3] w fun e w'=>e=.returned (.string ⟨#[]⟩)/\w'=w:=by
 have hu:=fun w=>run_underlying Try.u115 (w:=w)
 have hs:=Try.sizeOf9
 have ha:=Try.isAgg9
 refine(callsIn_wide (n:=1)).1 ?_
 refine callsIn_of_wp Try.func79 rfl trivial ?_ rfl
 simp only[Try.ntmps79,List.size_toArray,List.length_cons,List.length_nil,Nat.reduceAdd,Nat.reduceSub,Array.replicate_succ,Array.replicate_zero,List.push_toArray,List.append_toArray,List.nil_append,List.cons_append]
 gi_wp2
 simp[Instr.index,asIntOf,part,go_sem,hu,hs,ha]
 gi_wp2
 go_ret
 exact⟨rfl,rfl⟩
set_option maxHeartbeats 1000000 in
theorem Try.turning4(w:World):Calls Try.prog 79 #[.int .i64 4] w fun e w'=>e=.returned (.string ⟨#[122]⟩)/\w'=w:=by
 have hu:=fun w=>run_underlying Try.u115 (w:=w)
 have hs:=Try.sizeOf9
 have ha:=Try.isAgg9
 refine(callsIn_wide (n:=1)).1 ?_
 refine callsIn_of_wp Try.func79 rfl trivial ?_ rfl
 simp only[Try.ntmps79,List.size_toArray,List.length_cons,List.length_nil,Nat.reduceAdd,Nat.reduceSub,Array.replicate_succ,Array.replicate_zero,List.push_toArray,List.append_toArray,List.nil_append,List.cons_append]
 gi_wp2
 simp[Instr.index,asIntOf,part,go_sem,hu,hs,ha]
 gi_wp2
 go_ret
 exact⟨rfl,rfl⟩
set_option maxHeartbeats 1000000 in
theorem Try.turning5(w:World):Calls Try.prog 79 #[.int .i64 5] w fun e w'=>e=.returned (.string ⟨#[]⟩)/\w'=w:=by
 have hu:=fun w=>run_underlying Try.u115 (w:=w)
 have hs:=Try.sizeOf9
 have ha:=Try.isAgg9
 refine(callsIn_wide (n:=1)).1 ?_
 refine callsIn_of_wp Try.func79 rfl trivial ?_ rfl
 simp only[Try.ntmps79,List.size_toArray,List.length_cons,List.length_nil,Nat.reduceAdd,Nat.reduceSub,Array.replicate_succ,Array.replicate_zero,List.push_toArray,List.append_toArray,List.nil_append,List.cons_append]
 gi_wp2
 simp[Instr.index,asIntOf,part,go_sem,hu,hs,ha]
 gi_wp2
 go_ret
 exact⟨rfl,rfl⟩
set_option maxHeartbeats 1000000 in
theorem Try.turning6(w:World):Calls Try.prog 79 #[.int .i64 6] w fun e w'=>e=.returned (.string ⟨#[115,100,103]⟩)/\w'=w:=by
 have hu:=fun w=>run_underlying Try.u115 (w:=w)
 have hs:=Try.sizeOf9
 have ha:=Try.isAgg9
 refine(callsIn_wide (n:=1)).1 ?_
 refine callsIn_of_wp Try.func79 rfl trivial ?_ rfl
 simp only[Try.ntmps79,List.size_toArray,List.length_cons,List.length_nil,Nat.reduceAdd,Nat.reduceSub,Array.replicate_succ,Array.replicate_zero,List.push_toArray,List.append_toArray,List.nil_append,List.cons_append]
 gi_wp2
 simp[Instr.index,asIntOf,part,go_sem,hu,hs,ha]
 gi_wp2
 go_ret
 exact⟨rfl,rfl⟩
set_option maxHeartbeats 1000000 in
theorem Try.turning7(w:World):Calls Try.prog 79 #[.int .i64 7] w fun e w'=>e=.returned (.string ⟨#[116,100,103]⟩)/\w'=w:=by
 have hu:=fun w=>run_underlying Try.u115 (w:=w)
 have hs:=Try.sizeOf9
 have ha:=Try.isAgg9
 refine(callsIn_wide (n:=1)).1 ?_
 refine callsIn_of_wp Try.func79 rfl trivial ?_ rfl
 simp only[Try.ntmps79,List.size_toArray,List.length_cons,List.length_nil,Nat.reduceAdd,Nat.reduceSub,Array.replicate_succ,Array.replicate_zero,List.push_toArray,List.append_toArray,List.nil_append,List.cons_append]
 gi_wp2
 simp[Instr.index,asIntOf,part,go_sem,hu,hs,ha]
 gi_wp2
 go_ret
 exact⟨rfl,rfl⟩
end Go.Proofs
namespace Go.Proofs.Ytbdibjgoeeokoaa
section
open Go.Ab
attribute [-simp] eAlloc_d eStore_f
def turningT(k:Int):ByteArray:=if k=1 then⟨#[116]⟩ else if k=2 then⟨#[115]⟩ else if k=4 then⟨#[122]⟩ else if k=6 then⟨#[115,100,103]⟩ else if k=7 then⟨#[116,100,103]⟩ else⟨#[]⟩
theorem turning_ok{h:AH}{M:Nat->Prop}{R:AE->AH->Prop}{k:Int}(h0:0<=k)(h8:k<8)(hR:R (.ret (Sb (turningT k))) h):ACalls Try.prog 79 [I k] h M R:=by
 intro E w cargs hr ha
 cases ha with |cons a1 ha=>
 cases ha
 cases a1
 have key:∀(s:ByteArray),turningT k=s->Calls Try.prog 79 #[.int .i64 k] w (fun e w'=>e=.returned (.string s)/\w'=w)->Calls Try.prog 79 #[.int .i64 k] w fun e w'=>∃E' h' ae,Step E h M w E' h' w'/\ER E' ae e/\R ae h':=fun s hs c=>by
  refine c.mono ?_
  rintro e w' ⟨rfl,rfl⟩
  exact⟨E,h,.ret (Sb s),Step.refl hr,.sc _,by rw[<-hs];exact hR⟩
 have hk:k=0\/k=1\/k=2\/k=3\/k=4\/k=5\/k=6\/k=7:=by omega
 rcases hk with rfl |rfl |rfl |rfl |rfl |rfl |rfl |rfl
 ·exact key _ rfl (Try.turning0 w)
 ·exact key _ rfl (Try.turning1 w)
 ·exact key _ rfl (Try.turning2 w)
 ·exact key _ rfl (Try.turning3 w)
 ·exact key _ rfl (Try.turning4 w)
 ·exact key _ rfl (Try.turning5 w)
 ·exact key _ rfl (Try.turning6 w)
 ·exact key _ rfl (Try.turning7 w)
end
section
open Go.Ab
attribute [-simp] eAlloc_d eStore_f
theorem rng_rowF{α:Type}{f:α->List AV}{sz:Nat}{ty:TypeId}{h:AH}{x:AV}{l:List α}{i:Nat}{y:α}(hl:SlR f sz ty h x l)(hf:∀y,(f y).length=sz)(hi:l[i]?=some y):∃id,h.obj id≠none /\
  ∀{j k:Nat}{z:α}{v:AV}{K:AV->Nat->Prop},l[j]?=some z->k<sz->(f z)[k]?=some v->K v id ->
  pIxA (some (sz,none)) x (.sc (.int .i64 j)) fun t=>pFld (some k) t fun t=>lLd (some false) (some 1) t h K:=by
 obtain⟨id,cells,ro,ty',rfl,ho,_,_,_⟩:=hl.at_ hf hi
 refine⟨id,by rw[ho];simp,fun{j k z v K} hj hk hv hK=>?_⟩
 obtain⟨id2,cells2,ro2,ty2,e,ho2,h1,h2,h3⟩:=hl.at_ hf hj
 cases e
 have hlt:j<l.length:=(zM.1 hj).1
 have h4:=h3 k hk
 rw[hv]at h4
 simp only[pIxA_sl,pFld_ptr,lLd_f,ho2,ldk_mk,zG,zY,h4,cellK_some]
 exact⟨⟨by omega,by omega⟩,hK⟩
theorem turnT_in(n:ByteArray):0<=turnT n/\turnT n<=7:=by
 unfold turnT
 split
 ·decide
 split
 ·decide
 split
 ·decide
 split
 ·decide
 split<;>decide
def mergeP(l:List (COp×AV))(j:Nat)(a:COp):Option (List (COp×AV)):=
 match nbr l j a with
 |none=>none
 |some k=>match l[k]? with
  |none=>none
  |some y=>if turnT a.name=0\/turnT y.1.name=0 then none
   else if turningT ((turnT a.name+turnT y.1.name)%8)=⟨#[]⟩/\(turnT a.name+turnT y.1.name)%8≠0 then none
   else some (withG [(j:Int),(k:Int)] (turningT ((turnT a.name+turnT y.1.name)%8)) l 0)
section
variable {h:AH} {M:Nat->Prop} {R:AE->AH->Prop} {x xa:AV} {l:List (COp×AV)} {a:COp} {j:Nat}
theorem merge_ok(hx:OpsL h x l)(hq:∀y∈l,WO y)(hn:l.length<=1000000)(hj:l[j]?=some (a,xa))(hR:∀h',Fr h h' (fun _=>False)->RP R h.next (mergeP l j a) h'):ACalls Try.prog 62 [.agg [x],I j] h M R:=by
 apply F62.callsN
 unfold F62.n18
 refine box_var (cs:=[x]) (by simp only[List.all_cons,hx.tab.one.1];rfl) fun vc h1 f1 hn1 hoc=>?_
 have hx1:=hx.fr0 f1
 unfold F62.n17
 refine var_ld hoc rfl fun _=>?_
 refine⟨fun _=>False,fun _ h=>h.elim,neighO_ok hx1 hq hn hj fun h2 f2=>?_⟩
 have f12:=f1.tr0 f2
 have hx2:=hx.fr0 f12
 have hoc:=f2.ob0 hoc
 show F62.n16 _ _ _ _ _ _ _ (oi (nbr l j a)) _
 have hR0:=hR
 have hR:=hR h2 f12
 cases hk:nbr l j a with
 |none=>
  simp only[mergeP,hk]at hR
  simp[F62.n16,F62.n15,F62.n14,oi]
  exact hR
 |some k=>
  obtain⟨b,xb,hb,hal,hjk,ka⟩:=nbr_in hk
  have hk0:¬(k:Int)<0:=by omega
  simp only[mergeP,hk,hb]at hR hR0
  simp only[oi,F62.n16,pBin_lss,zK hk0,F62.n15,aIf_b,zD,zE,zC,zH]
  unfold F62.n13
  obtain⟨ir,hir,hrd⟩:=rng_rowF hx2.tab encO_len hj
  refine⟨fun i=>if i=8 then vc else ir,fun i _=>by by_cases e:i=8<;>simp[e,hoc,hir],?_⟩
  refine var_fld hoc rfl fun _=>?_
  refine rng_fld hx2.tab encO_len hj (by decide) (v:=Sb a.name) rfl fun _=>?_
  simp only[pFld_ptr,lLd_f,hoc,ldk_mk,zG,zA,cellK_some]
  refine⟨rfl,hrd hb (by decide) (v:=Sb b.name) rfl ⟨rfl,?_⟩⟩
  refine⟨fun _=>False,fun _ h=>h.elim,turn_ok ?_⟩
  refine⟨fun _=>False,fun _ h=>h.elim,turn_ok ?_⟩
  show F62.n12 _ _ _ _ _ _ _ _ (I (turnT a.name)) (I (turnT b.name)) _
  have ra:=turnT_in a.name
  have rb:=turnT_in b.name
  generalize turnT a.name=m at *
  generalize turnT b.name=n at *
  have w:IntKind.i64.wrap (m+n)=m+n:=wrap_in (by omega) (by omega)
  have tm:(m+n).tmod 8=(m+n)%8:=Int.tmod_eq_emod_of_nonneg (by omega)
  have go:m≠0->n≠0->F62.n7 (fun id=>M id\/h.next<=id) (retV Try.prog [.tmp 4,.tmp 5] R) (retV Try.prog [.tmp 4,.tmp 5] R) (fun _ _ _=>False) (fun v h=>R (.pan v) h) (I j) (.ptr vc 0) (I k) (I m) (I n) h2:=fun hm hn0=>by
   rw[zW (by omega)]at hR
   unfold F62.n7
   have e8:(8:Int)≠0:=by decide
   simp only[pBin_add,w,pBin,zH,tm,ne_eq,e8,not_false_eq_true]
   refine⟨fun _=>False,fun _ h=>h.elim,turning_ok (by omega) (by omega) ?_⟩
   show F62.n6 _ _ _ _ _ _ _ _ _ _ (Sb (turningT ((m+n)%8))) _
   have v0:0<=(m+n)%8:=by omega
   generalize hv:(m+n)%8=v at *
   have fin:∀c:Bool,c=decide (turningT v=⟨#[]⟩/\v≠0)->F62.n3 (fun id=>M id\/h.next<=id) (retV Try.prog [.tmp 4,.tmp 5] R) (retV Try.prog [.tmp 4,.tmp 5] R) (fun _ _ _=>False) (fun v h=>R (.pan v) h) (I j) (.ptr vc 0) (I k) (Sb (turningT v)) (B c) h2:=fun c hc=>by
    cases c with
    |true=>
     rw[zX (of_decide_eq_true hc.symm)]at hR
     simp only[F62.n3,aIf_b,zD,zF,zC,zI,F62.n2]
     exact hR
    |false=>
     simp only[F62.n3,aIf_b,zD,zE,zC,zH]
     unfold F62.n1
     refine var_ld hoc rfl fun _=>?_
     refine bsl_new (cells:=[I j,I k]) ⟨rfl,rfl⟩ fun z h5 f5 hz hoz=>?_
     have f25:=f12.tr0 f5
     refine⟨fun _=>False,fun _ h=>h.elim,withO_ok (gone:=[(j:Int),(k:Int)]) (hx.fr0 f25) (.inr (.inr ⟨z,[],false,3,rfl,fun _=>rfl,hoz⟩)) (by simp) (by simp) hn fun y h6 f6 hy hi=>?_⟩
     have hR2:=hR0 h6 (f25.tr0 f6)
     rw[zW (by omega),zW (of_decide_eq_false hc.symm)]at hR2
     exact hR2 y hy fun id off n e=>zR f25.next (hi id off n e)
   have f9:=fin _ rfl
   unfold F62.n6
   rw[pBin_seql]
   by_cases e1:turningT v=⟨#[]⟩
   ·simp[-F62.n3,e1]at f9
    simp[-F62.n3,e1,pBin,w,tm,hv]
    exact f9
   ·simp[-F62.n3,e1]at f9
    simp[-F62.n3,e1]
    exact f9
  by_cases hm:m=0
  ·rw[zX (.inl hm)]at hR
   simp[-F62.n7,hm]
   exact hR
  ·by_cases hn0:n=0
   ·rw[zX (.inr hn0)]at hR
    simp[-F62.n7,hm,hn0]
    exact hR
   ·simp[-F62.n7,hm,hn0]
    exact go hm hn0
end
end
section
open Go.Ab
attribute [-simp] eAlloc_d eStore_f
def ruleP(l:List (COp×AV))(r j:Nat):Option (List (COp×AV)):=
 match l[j]? with
 |none=>none
 |some y=>match r with
  |0=>idleP l j y.1
  |1=>undoP l j y.1
  |2=>mergeP l j y.1
  |_=>flipP l j y.1
def placeGo(l:List (COp×AV))(r:Nat):Nat->Nat->Option (List (COp×AV))
 |0,_=>none
 |n+1,j=>match ruleP l r j with
  |some L=>some L
  |none=>placeGo l r n (j+1)
def ruleGo(l:List (COp×AV)):Nat->Nat->Option (List (COp×AV))
 |0,_=>none
 |n+1,r=>match placeGo l r l.length 0 with
  |some L=>some L
  |none=>ruleGo l n (r+1)
def stepP(l:List (COp×AV)):Option (List (COp×AV)):=ruleGo l 4 0
theorem ent60:entOk Try.prog 60=true:=by kernel_rfl
theorem ent61:entOk Try.prog 61=true:=by kernel_rfl
theorem ent62:entOk Try.prog 62=true:=by kernel_rfl
theorem ent63:entOk Try.prog 63=true:=by kernel_rfl
def ruleV(x:AV)(r:Nat):AV:=.fn (.func (60+r)) [.agg [x]] []
def encV(v:AV):List AV:=[v]
section
variable {h:AH} {M W:Nat->Prop} {R:AE->AH->Prop} {x:AV} {l:List (COp×AV)}
theorem rule_ok{K KP:AV->AH->Prop}{r j:Nat}(hr:r<4)(hjl:j<l.length)(hx:OpsL h x l)(hq:∀y∈l,WO y)(ha1:∀y∈l,AO1 y)(hn:l.length<=1000000)
  (hR:∀h',Fr h h' (fun _=>False)->match ruleP l r j with
   |none=>K (.tup [nilS,B false]) h'
   |some L=>∀y,SlL encO 7 45 h' y L->InS (h.next<=·) y->K (.tup [y,B true]) h'):aGo Try.prog W (ruleV x r) [I j] h K KP:=by
 obtain⟨⟨a,xa⟩,hj⟩:∃y,l[j]?=some y:=⟨_,zJ hjl⟩
 have conv:∀(res:Option (List (COp×AV))) h',ruleP l r j=res->Fr h h' (fun _=>False)->RP (fun ae h'=>match ae with |.ret v=>K v h' |.pan v=>KP v h') h.next res h':=fun res h' e f=>by
  have:=hR h' f
  rw[e]at this
  cases res with
  |none=>exact this
  |some L=>exact this
 unfold ruleV
 have hr4:r=0\/r=1\/r=2\/r=3:=by omega
 rcases hr4 with rfl |rfl |rfl |rfl
 ·exact aGo_of ent60 ⟨fun _=>False,fun _ h=>h.elim,idle_ok hx hn hj fun h' f=>conv _ h' (by simp only[ruleP,hj]) f⟩
 ·exact aGo_of ent61 ⟨fun _=>False,fun _ h=>h.elim,undo_ok hx hq ha1 hn hj fun h' f=>conv _ h' (by simp only[ruleP,hj]) f⟩
 ·exact aGo_of ent62 ⟨fun _=>False,fun _ h=>h.elim,merge_ok hx hq hn hj fun h' f=>conv _ h' (by simp only[ruleP,hj]) f⟩
 ·exact aGo_of ent63 ⟨fun _=>False,fun _ h=>h.elim,flip4_ok hx hq hn hj fun h' f=>conv _ h' (by simp only[ruleP,hj]) f⟩
theorem rules_ok(hx1:oneA x=true)(hR:∀id h',Fr h h' (fun _=>False)->SlR encV 1 80 h' (.sl id 0 4) [ruleV x 0,ruleV x 1,ruleV x 2,ruleV x 3]->R (.ret (.sl id 0 4)) h'):ACalls Try.prog 42 [.agg [x]] h M R:=by
 apply F42.callsN
 unfold F42.n2
 refine box_var (cs:=[x]) (by simp only[List.all_cons,hx1];rfl) fun vc h1 f1 hn1 hoc=>?_
 unfold F42.n1
 refine var_ld hoc rfl fun _=>?_
 refine var_ld hoc rfl fun _=>?_
 refine var_ld hoc rfl fun _=>?_
 refine var_ld hoc rfl fun _=>?_
 refine bsl_new (cells:=[ruleV x 0,ruleV x 1,ruleV x 2,ruleV x 3]) ⟨rfl,rfl⟩ fun z h2 f2 hz hoz=>?_
 exact hR z h2 (f1.tr0 f2) (.inr (.inr ⟨z,[],false,80,rfl,fun _=>rfl,hoz⟩))
end
end
section
open Go.Ab
attribute [-simp] eAlloc_d eStore_f
section
variable {h:AH} {M:Nat->Prop} {R:AE->AH->Prop} {x:AV} {l:List (COp×AV)}
theorem step_ok(hx:OpsL h x l)(hq:∀y∈l,WO y)(ha1:∀y∈l,AO1 y)(hn:l.length<=1000000)
  (hR:∀h',Fr h h' (fun _=>False)->match stepP l with
   |none=>R (.ret (.tup [x,B false])) h'
   |some L=>∀y,SlL encO 7 45 h' y L->InS (h.next<=·) y->R (.ret (.tup [y,B true])) h'):ACalls Try.prog 23 [.agg [x]] h M R:=by
 apply F23.callsN
 unfold F23.n18
 refine box_var (cs:=[x]) (by simp only[List.all_cons,hx.tab.one.1];rfl) fun vc h1 f1 hn1 hoc=>?_
 unfold F23.n17
 refine var_ld hoc rfl fun _=>?_
 refine⟨fun _=>False,fun _ h=>h.elim,rules_ok hx.tab.one.1 fun id h2 f2 hsl=>?_⟩
 have f12:=f1.tr0 f2
 have hoc:=f2.ob0 hoc
 have e4:(I ([ruleV x 0,ruleV x 1,ruleV x 2,ruleV x 3]:List AV).length:AV)=I 4:=rfl
 simp only[hsl.len.1,hsl.len.2,zH]
 rw[show(AV.sc (Value.int IntKind.i64 ([ruleV x 0,ruleV x 1,ruleV x 2,ruleV x 3]:List AV).length))=I 4 from rfl]
 unfold F23.n16
 refine vLoop_of (ι:=Nat) (fun r v h'=>v=[.ptr vc 0,.sl id 0 4,I 4,I r]/\r<=4/\Fr h h' (fun _=>False)/\h'.obj vc=some (mkO [x] 1 55)/\SlR encV 1 80 h' (.sl id 0 4) [ruleV x 0,ruleV x 1,ruleV x 2,ruleV x 3]/\ruleGo l (4-r) r=stepP l) (fun r=>4-r) 0 ⟨rfl,by omega,f12,hoc,hsl,rfl⟩ ?_
 rintro K r v h3 ⟨rfl,hr,f3,hoc,hsl,he⟩ hK
 simp only[F23.g1_,zN,zO]
 have hx3:=hx.fr0 f3
 by_cases hlt:r<4
 ·have hli:(r:Int)<4:=by omega
  have w1:IntKind.i64.wrap ((r:Int)+1)=((r+1:Nat):Int):=by rw[wrap_in (by omega) (by omega)];simp
  simp only[F23.n15,pBin_lss,zL hli,F23.n14,aIf_b,zD,zF,zC,zI]
  unfold F23.n13
  have hgr:([ruleV x 0,ruleV x 1,ruleV x 2,ruleV x 3]:List AV)[r]?=some (ruleV x r):=by
   have hr4:r=0\/r=1\/r=2\/r=3:=by omega
   rcases hr4 with rfl |rfl |rfl |rfl<;>rfl
  refine rng_one hsl (fun _=>rfl) hgr rfl fun _=>?_
  unfold F23.n12
  refine var_fld hoc rfl fun _=>?_
  simp only[hx3.tab.len.1,hx3.tab.len.2,zH]
  unfold F23.n11
  rw[show 4-r=(4-(r+1))+1 by omega]at he
  simp only[ruleGo]at he
  refine vLoop_of (ι:=Nat) (fun j v h'=>v=[.ptr vc 0,ruleV x r,.sl id 0 4,I 4,I r,I l.length,I j]/\j<=l.length/\Fr h h' (fun _=>False)/\h'.obj vc=some (mkO [x] 1 55)/\SlR encV 1 80 h' (.sl id 0 4) [ruleV x 0,ruleV x 1,ruleV x 2,ruleV x 3] /\
   placeGo l r (l.length-j) j=placeGo l r l.length 0) (fun j=>l.length-j) 0 ⟨rfl,by omega,f3,hoc,hsl,rfl⟩ ?_
  rintro K2 j v h4 ⟨rfl,hj,f4,hoc,hsl,hp⟩ hK2
  simp only[F23.g2_,zN,zO]
  by_cases hjl:j<l.length
  ·have hlj:(j:Int)<l.length:=by omega
   have w2:IntKind.i64.wrap ((j:Int)+1)=((j+1:Nat):Int):=by rw[wrap_in (by omega) (by omega)];simp
   simp only[F23.n10,pBin_lss,zL hlj,F23.n9,aIf_b,zD,zF,zC,zI]
   unfold F23.n8 F23.n7
   rw[show l.length-j=(l.length-(j+1))+1 by omega]at hp
   simp only[placeGo]at hp
   refine rule_ok hlt hjl (hx.fr0 f4) hq ha1 hn fun h5 f5=>?_
   have f45:=f4.tr0 f5
   cases hrp:ruleP l r j with
   |none=>
    rw[hrp]at hp
    simp only[pExt_tup,zA,zB,cellK_some,F23.n6,F23.n5,aIf_b,zD,zE,zC,zH,F23.n3,pBin_add,w2]
    exact hK2 (j+1) _ _ (by omega) ⟨rfl,by omega,f45,f5.ob0 hoc,hsl.fr0 f5,hp⟩
   |some L=>
    rw[hrp]at hp
    rw[<-hp]at he
    intro y hy hi
    have hR:=hR h5 f45
    rw[<-he]at hR
    simp only[pExt_tup,zA,zB,cellK_some,F23.n6,F23.n5,aIf_b,zD,zF,zC,zI,F23.n4]
    exact hR y hy fun id off n e=>zR f4.next (hi id off n e)
  ·have hnl:¬(j:Int)<l.length:=by omega
   rw[show l.length-j=0 by omega]at hp
   simp only[placeGo]at hp
   rw[<-hp]at he
   simp only[F23.n10,pBin_lss,zK hnl,F23.n9,aIf_b,zD,zE,zC,zH,zV,F23.n2,zN,zO,pBin_add,w1]
   exact hK (r+1) _ _ (by omega) ⟨rfl,by omega,f4,hoc,hsl,he⟩
 ·have hnl:¬(r:Int)<4:=by omega
  rw[show 4-r=0 by omega]at he
  simp only[ruleGo]at he
  have hR:=hR h3 f3
  rw[<-he]at hR
  simp only[F23.n15,pBin_lss,zK hnl,F23.n14,aIf_b,zD,zE,zC,zH,zV]
  unfold F23.n1
  refine var_fld hoc rfl fun _=>?_
  exact hR
end
end
end Go.Proofs.Ytbdibjgoeeokoaa
