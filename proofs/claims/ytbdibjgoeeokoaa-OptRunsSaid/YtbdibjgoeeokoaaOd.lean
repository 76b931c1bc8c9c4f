/- What the law itself does with circuits. No condition. -/
import Derived.Test.YtbdibjgoeeokoaaOc
import Derived.Test.YtbdibjgoeeokoaaGw
set_option maxRecDepth 100000
namespace Go.Proofs.Ytbdibjgoeeokoaa
section
open Go.Ab
attribute [-simp] eAlloc_d eStore_f
def hop:COp:=⟨1,⟨#[104]⟩,[0],0,false,0,0⟩
theorem hop_run:runT [hop,hop]=[]:=List.length_eq_zero_iff.1 (by decide +kernel)
theorem hop_step:stepC [hop]=none:=by
 have:(stepC [hop]).isSome=false:=by decide +kernel
 cases h:stepC [hop] with
 |none=>rfl
 |some m=>rw[h]at this;cases this
theorem hop_c2:CK 1 0 [hop,hop]:=check_iff.1 (by decide +kernel)
theorem hop_c1:CK 1 0 [hop]:=check_iff.1 (by decide +kernel)
theorem hop_m:MOK hop:=by unfold MOK hop;decide
section
variable {h:AH} {M:Nat->Prop} {R:AE->AH->Prop} {x y:AV} {l m:List (COp×AV)} {q b:Int}
theorem awake_ok(hR:∀h',Fr h h' (fun _=>False)->R (.ret (B true)) h'):ACalls Try.prog 6 [] h M R:=by
 apply F6.callsN
 unfold F6.n16 F6.n15
 refine bsl_new (cells:=[I 0]) ⟨rfl,rfl⟩ fun z h1 f1 hz hoz=>?_
 have hq1:SlR encI 1 3 h1 (.sl z 0 1) [0]:=.inr (.inr ⟨z,[],false,3,rfl,fun _=>rfl,hoz⟩)
 refine⟨encO (hop,.sl z 0 1),rfl,?_⟩
 refine new_var (cs:=encO (hop,.sl z 0 1)) rfl rfl rfl rfl (fun id hid=>.inr (zR f1.next hid)) fun vh h2 f2 hn2 hoh=>?_
 have f12:=f1.tr0 f2
 unfold F6.n14
 refine var_ld hoh rfl fun _=>?_
 refine var_ld hoh rfl fun _=>?_
 refine bsl2 (f:=encO) (s:=(hop,.sl z 0 1)) (t:=(hop,.sl z 0 1)) encO_len (by decide) rfl rfl rfl fun h3 hs3 f3=>?_
 have f13:=f12.tr0 f3
 have hq3:=(hq1.fr0 f2).fr0 f3
 have hx3:OpsL h3 (.sl h2.next 0 2) [(hop,.sl z 0 1),(hop,.sl z 0 1)]:=⟨hs3.toR,fun y hy=>by
  simp only[List.mem_cons,List.not_mem_nil,or_false,or_self]at hy
  subst hy;exact hq3⟩
 refine⟨[I 1,I 0,.sl h2.next 0 2],rfl,?_⟩
 refine⟨fun _=>False,fun _ h=>h.elim,optRun_ok hx3 (.inr ⟨_,rfl⟩) (fun y hy=>?_) (fun y hy=>?_) (fun h4 f4 he=>?_) fun h4 xo yl f4 hk hn hy=>?_⟩
 ·simp only[List.mem_cons,List.not_mem_nil,or_false,or_self]at hy
  subst hy;simp[hop]
 ·simp only[List.mem_cons,List.not_mem_nil,or_false,or_self]at hy
  subst hy;exact hop_m
 ·exact absurd (check_iff.2 hop_c2) he
 have hy:yl.map (·.1)=[]:=hy.trans hop_run
 have hy:yl=[]:=List.map_eq_nil_iff.1 hy
 subst hy
 have f14:=f13.tr0 f4
 simp only[pExt_tup,zA,zB,cellK_some]
 refine new_var (cs:=[I 1,I 0,xo]) (by simp only[List.all_cons,hn.o.toR.one.1];rfl) rfl rfl rfl (fun id hid=>.inr (zR f14.next hid)) fun v2 h5 f5 hn5 ho2=>?_
 have f15:=f14.tr0 f5
 have hoh:=f5.ob0 (f4.ob0 (f3.ob0 hoh))
 have hxo:=slL_f0 hn.o f5
 unfold F6.n13
 refine var_ld hoh rfl fun _=>?_
 refine bsl_1 (cs:=encO (hop,.sl z 0 1)) rfl rfl rfl fun z2 h6 ho6 hz6 f6=>?_
 have f16:=f15.tr0 f6
 have hx6:OpsL h6 (.sl z2 0 1) [(hop,.sl z 0 1)]:=⟨.inr (.inr ⟨z2,[],false,45,rfl,fun _=>rfl,ho6⟩),fun y hy=>by
  simp only[List.mem_cons,List.not_mem_nil,or_false]at hy
  subst hy;exact((hq3.fr0 f4).fr0 f5).fr0 f6⟩
 refine⟨[I 1,I 0,.sl z2 0 1],rfl,?_⟩
 refine⟨fun _=>False,fun _ h=>h.elim,optStep_ok hx6 (.inr ⟨_,rfl⟩) (fun y hy=>?_) (fun h7 f7 he=>?_) fun h7 xp yp f7 hk2 hn2 hy2=>?_⟩
 ·simp only[List.mem_cons,List.not_mem_nil,or_false]at hy
  subst hy;simp[hop]
 ·exact absurd (check_iff.2 hop_c1) he
 have hs1:stepC ([(hop,AV.sl z 0 1)].map (·.1))=none:=hop_step
 rw[hs1]at hy2 ⊢
 have f17:=f16.tr0 f7
 have hl2:yp.length=1:=by simpa using congrArg List.length hy2
 simp only[pExt_tup,zA,zB,cellK_some]
 refine new_var (cs:=[I 1,I 0,xp]) (by simp only[List.all_cons,hn2.o.toR.one.1];rfl) rfl rfl rfl (fun id hid=>.inr (zR f17.next hid)) fun v4 h8 f8 hn8 ho4=>?_
 have ho2:=f8.ob0 (f7.ob0 (f6.ob0 ho2))
 have hxo:=slL_f0 (slL_f0 (slL_f0 hxo f6) f7) f8
 have hxp:=slL_f0 hn2.o f8
 have t00:((0:Int)==0)=true:=rfl
 have t11:((1:Int)==1)=true:=rfl
 have hR:=hR h8 (f17.tr0 f8)
 simp only[F6.n12,pBin_eql,t00]
 simp only[F6.n11,aIg_b,zS,zF,zD,zC,zI,pBin_eql,t00,F6.n10,pPick_b,zV]
 simp only[F6.n9,aIg_b,zS,zF,zD,zC,zI,Option.isSome_none,pUn_not,zT,F6.n8,pPick_b,zV]
 unfold F6.n7
 simp only[aIg_b,zS,zF,zD,zC,zI]
 refine var_fld ho2 rfl fun _=>?_
 simp only[hxo.toR.len.1,hxo.toR.len.2,zH,List.length_nil,pBin_eql,Int.natCast_zero,t00,F6.n6,pPick_b,zV]
 unfold F6.n5
 simp only[aIg_b,zS,zF,zD,zC,zI]
 refine var_fld ho2 rfl fun _=>?_
 simp only[pBin_eql,t11,F6.n4,pPick_b,zV]
 unfold F6.n3
 simp only[aIg_b,zS,zF,zD,zC,zI]
 refine var_fld ho4 rfl fun _=>?_
 simp only[hxp.toR.len.1,hxp.toR.len.2,zH,hl2,pBin_eql,Int.natCast_one,t11,F6.n2,pPick_b,zV,F6.n1]
 exact hR
theorem great_ok(hx:OpsL h x l)(hl:l.length<=9223372036854775807)(hT:∀h',Fr h h' (fun _=>False)->R (.ret (B true)) h')(hF:∀h',Fr h h' (fun _=>False)->l.length<=80->(∀y∈l,y.1.qubits.length<=80)->R (.ret (B false)) h'):ACalls Try.prog 7 [.agg [I q,I b,x]] h M R:=by
 apply F7.callsN
 unfold F7.n14
 refine box_var (cs:=[I q,I b,x]) (by simp only[List.all_cons,hx.tab.one.1];rfl) fun vc h1 f1 hn1 hoc=>?_
 unfold F7.n13
 refine var_fld hoc rfl fun _=>?_
 simp only[hx.tab.len.1,hx.tab.len.2,zH,pBin_gtr,gt_iff_lt]
 by_cases hv:(80:Int)<l.length
 ·simp only[zL hv,F7.n12,aIf_b,zD,zF,zC,zI,F7.n11]
  exact hT h1 f1
 simp only[zK hv,F7.n12,aIf_b,zD,zE,zC,zH]
 unfold F7.n10
 refine var_fld hoc rfl fun _=>?_
 simp only[hx.tab.len.1,hx.tab.len.2,zH]
 unfold F7.n9
 refine vLoop_of (ι:=Nat) (fun i v h'=>v=[x,I l.length,I i]/\i<=l.length/\Fr h h' (fun _=>False)/\∀y∈l.take i,y.1.qubits.length<=80) (fun i=>l.length-i) 0 ⟨rfl,by omega,f1,by simp⟩ ?_
 rintro K i v h2 ⟨rfl,hi,f2,hq⟩ hK
 have hx2:=hx.fr0 f2
 simp only[F7.g1_,zN,zO,F7.n8,pBin_lss]
 by_cases hlt:i<l.length
 ·have hli:(i:Int)<l.length:=by omega
  have w1:IntKind.i64.wrap ((i:Int)+1)=((i+1:Nat):Int):=by rw[wrap_in (by omega) (by omega)];simp
  have g1:l[i]?=some l[i]:=zJ hlt
  generalize l[i]=y at *
  have qy:=hx2.qs _ (zP g1)
  simp only[zL hli,F7.n7,aIf_b,zD,zF,zC,zI]
  unfold F7.n6
  refine rng_var hx2.tab encO_len (encO_one qy.one.1) g1 rfl rfl (fun id hid=>.inr (zR f2.next hid)) fun vo h3 f3 hn3 hoo=>?_
  have f23:=f2.tr0 f3
  unfold F7.n5
  refine var_fld hoo rfl fun _=>?_
  have qy3:=qy.fr0 f3
  simp only[qy3.len.1,qy3.len.2,zH,pBin_gtr,gt_iff_lt]
  by_cases hv2:(80:Int)<y.1.qubits.length
  ·simp only[zL hv2,F7.n4,aIf_b,zD,zF,zC,zI,F7.n3]
   exact hT h3 f23
  ·simp only[zK hv2,F7.n4,aIf_b,zD,zE,zC,zH,F7.n2,pBin_add,w1]
   refine hK (i+1) _ _ (by omega) ⟨rfl,by omega,f23,fun z hz=>?_⟩
   rw[List.take_add_one,g1]at hz
   rcases List.mem_append.1 hz with hz |hz
   ·exact hq z hz
   ·simp only[Option.toList,List.mem_singleton]at hz
    subst hz;omega
 ·have hnl:¬(i:Int)<l.length:=by omega
  rw[List.take_of_length_le (by omega)]at hq
  simp only[zK hnl,F7.n7,aIf_b,zD,zE,zC,zH,zV,F7.n1]
  exact hF h2 f2 (by omega) hq
theorem equal_ok(hx:OpsL h x l)(hy:OpsL h y m)(he:l.map (·.1)=m.map (·.1))(hl:l.length<=1000000)(hql:∀z∈l,z.1.qubits.length<=1000000)(hR:∀h',Fr h h' (fun _=>False)->R (.ret (B true)) h') :
  ACalls Try.prog 11 [.agg [I q,I b,x],.agg [I q,I b,y]] h M R:=by
 have hlm:l.length=m.length:=by simpa using congrArg List.length he
 apply F11.callsN
 unfold F11.n40
 refine box_var (cs:=[I q,I b,x]) (by simp only[List.all_cons,hx.tab.one.1];rfl) fun va h1 f1 hn1 hoa=>?_
 refine box_var (cs:=[I q,I b,y]) (by simp only[List.all_cons,hy.tab.one.1];rfl) fun vb h2 f2 hn2 hob=>?_
 have hoa:=f2.ob0 hoa
 have f12:=f1.tr0 f2
 have hx2:=hx.fr0 f12
 have hy2:=hy.fr0 f12
 unfold F11.n39
 refine var_fld hoa rfl fun _=>?_
 refine var_fld hob rfl fun _=>?_
 simp only[pBin_neq,bne_self_eq_false]
 unfold F11.n38
 simp only[aIg_b,zT,zE,zD,zC,zH,zI,zF]
 refine var_fld hoa rfl fun _=>?_
 refine var_fld hob rfl fun _=>?_
 simp only[pBin_neq,bne_self_eq_false,F11.n37,pPick_b,zE,if_false]
 unfold F11.n36
 simp only[aIg_b,zT,zE,zD,zC,zH,zI,zF]
 refine var_fld hoa rfl fun _=>?_
 simp only[hx2.tab.len.1,hx2.tab.len.2,zH]
 refine var_fld hob rfl fun _=>?_
 simp only[hy2.tab.len.1,hy2.tab.len.2,zH,hlm,pBin_neq,bne_self_eq_false,F11.n35,pPick_b,zE,if_false,F11.n34,aIf_b,zD,zC]
 unfold F11.n32
 refine var_fld hoa rfl fun _=>?_
 simp only[hx2.tab.len.1,hx2.tab.len.2,zH]
 unfold F11.n31
 refine vLoop_of (ι:=Nat) (fun i v h'=>v=[.ptr vb 0,x,I l.length,I i]/\i<=l.length/\Fr h h' (fun _=>False)/\h'.obj vb=some (mkO [I q,I b,y] 3 24)) (fun i=>l.length-i) 0 ⟨rfl,by omega,f12,hob⟩ ?_
 rintro K i v h3 ⟨rfl,hi,f3,hob⟩ hK
 have hx3:=hx.fr0 f3
 have hy3:=hy.fr0 f3
 simp only[F11.g1_,zN,zO,F11.n30,pBin_lss]
 by_cases hlt:i<l.length
 ·have hli:(i:Int)<l.length:=by omega
  have w1:IntKind.i64.wrap ((i:Int)+1)=((i+1:Nat):Int):=by rw[wrap_in (by omega) (by omega)];simp
  rcases get_nat he i with⟨e1,_⟩ |⟨o,xa,xb,g1,g2⟩
  ·rw[zJ hlt]at e1;cases e1
  have qa:=hx3.qs _ (zP g1)
  have qb:=hy3.qs _ (zP g2)
  have hqo:=hql _ (zP g1)
  simp only at hqo
  simp only[zL hli,F11.n29,aIf_b,zD,zF,zC,zI]
  unfold F11.n28
  refine rng_var hx3.tab encO_len (encO_one qa.one.1) g1 rfl rfl (fun id hid=>.inr (zR f3.next hid)) fun vo h4 f4 hn4 hoo=>?_
  have f34:=f3.tr0 f4
  have hob:=f4.ob0 hob
  unfold F11.n27
  refine var_fld hob rfl fun _=>?_
  refine rng_var (hy3.fr0 f4).tab encO_len (encO_one qb.one.1) g2 rfl rfl (fun id hid=>.inr (zR f34.next hid)) fun vp h5 f5 hn5 hop=>?_
  have f35:=f34.tr0 f5
  have hob:=f5.ob0 hob
  have hoo:=f5.ob0 hoo
  have qa5:=(qa.fr0 f4).fr0 f5
  have qb5:=(qb.fr0 f4).fr0 f5
  unfold F11.n26
  refine var_fld hoo rfl fun _=>?_
  refine var_fld hop rfl fun _=>?_
  simp only[pBin_neq,bne_self_eq_false]
  unfold F11.n25
  simp only[aIg_b,zT,zE,zD,zC,zH,zI,zF]
  refine var_fld hoo rfl fun _=>?_
  refine var_fld hop rfl fun _=>?_
  simp only[pBin_sneq,ne_eq,not_true_eq_false,decide_false,decide_true,zS,F11.n24,pPick_b,zE,if_false]
  unfold F11.n23
  simp only[aIg_b,zT,zE,zD,zC,zH,zI,zF]
  refine var_fld hoo rfl fun _=>?_
  refine var_fld hop rfl fun _=>?_
  simp only[pBin_neq,bne_self_eq_false,F11.n22,pPick_b,zE,if_false]
  unfold F11.n21
  simp only[aIg_b,zT,zE,zD,zC,zH,zI,zF]
  refine var_fld hoo rfl fun _=>?_
  refine var_fld hop rfl fun _=>?_
  simp only[pBin_bneq,beq_self_eq_true,zS,F11.n20,pPick_b,zE,if_false]
  unfold F11.n19
  simp only[aIg_b,zT,zE,zD,zC,zH,zI,zF]
  refine var_fld hoo rfl fun _=>?_
  refine var_fld hop rfl fun _=>?_
  simp only[pBin_neq,bne_self_eq_false,F11.n18,pPick_b,zE,if_false]
  unfold F11.n17
  simp only[aIg_b,zT,zE,zD,zC,zH,zI,zF]
  refine var_fld hoo rfl fun _=>?_
  refine var_fld hop rfl fun _=>?_
  simp only[pBin_neq,bne_self_eq_false,F11.n16,pPick_b,zE,if_false]
  unfold F11.n15
  simp only[aIg_b,zT,zE,zD,zC,zH,zI,zF]
  refine var_fld hoo rfl fun _=>?_
  simp only[qa5.len.1,qa5.len.2,zH]
  refine var_fld hop rfl fun _=>?_
  simp only[qb5.len.1,qb5.len.2,zH,pBin_neq,bne_self_eq_false,F11.n14,pPick_b,zE,if_false,F11.n13,aIf_b,zD,zC]
  unfold F11.n11
  refine var_fld hoo rfl fun _=>?_
  simp only[qa5.len.1,qa5.len.2,zH]
  unfold F11.n10
  refine vLoop_of (ι:=Nat) (fun j v h'=>v=[.ptr vb 0,.ptr vp 0,x,I l.length,I i,xa,I o.qubits.length,I j]/\j<=o.qubits.length/\h'=h5) (fun j=>o.qubits.length-j) 0 ⟨rfl,by omega,rfl⟩ ?_
  rintro K2 j v h' ⟨rfl,hj,rfl⟩ hK2
  simp only[F11.g2_,zN,zO,F11.n9,pBin_lss]
  by_cases hjl:j<o.qubits.length
  ·have hlj:(j:Int)<o.qubits.length:=by omega
   have w2:IntKind.i64.wrap ((j:Int)+1)=((j+1:Nat):Int):=by rw[wrap_in (by omega) (by omega)];simp
   have gj:o.qubits[j]?=some o.qubits[j]:=zJ hjl
   simp only[zL hlj,F11.n8,aIf_b,zD,zF,zC,zI]
   unfold F11.n7
   refine rng_one qa5 encI_len gj rfl fun _=>?_
   unfold F11.n6
   refine var_fld hop rfl fun _=>?_
   refine rng_one qb5 encI_len gj rfl fun _=>?_
   simp only[pBin_neq,bne_self_eq_false,F11.n5,aIf_b,zD,zE,zC,zH,F11.n3,pBin_add,w2]
   exact hK2 (j+1) _ _ (by omega) ⟨rfl,by omega,rfl⟩
  ·have hnl:¬(j:Int)<o.qubits.length:=by omega
   simp only[zK hnl,F11.n8,aIf_b,zD,zE,zC,zH,zV,zN,zO,F11.n2,pBin_add,w1]
   exact hK (i+1) _ _ (by omega) ⟨rfl,by omega,f35,hob⟩
 ·have hnl:¬(i:Int)<l.length:=by omega
  simp only[zK hnl,F11.n29,aIf_b,zD,zE,zC,zH,zV,F11.n1]
  exact hR h3 f3
end
end
section
open Go.Ab
attribute [-simp] eAlloc_d eStore_f
def RS(x:AV)(L:List (COp×AV))(id:Nat):Prop:=(∃n,x=.sl id 0 n)\/∃y∈L,∃n,y.2=.sl id 0 n
theorem set2_put{A B:List (COp×AV)}{o:COp×AV}{w:AV}{i:Nat}(hi:A.length=i):putCells ((A++o::B).flatMap encO) (i*7+2) [w]=(A++(o.1,w)::B).flatMap encO:=by
 have:=putCells_app (A.flatMap encO) [w] (encO o++B.flatMap encO) 2
 rw[flat_len encO_len,hi]at this
 simp only[List.flatMap_append,List.flatMap_cons]
 rw[this];rfl
theorem set1_put{A B:List (COp×AV)}{o:COp×AV}{n:ByteArray}{i:Nat}(hi:A.length=i):putCells ((A++o::B).flatMap encO) (i*7+1) [Sb n]=(A++({ o.1 with name:=n },o.2)::B).flatMap encO:=by
 have:=putCells_app (A.flatMap encO) [Sb n] (encO o++B.flatMap encO) 1
 rw[flat_len encO_len,hi]at this
 simp only[List.flatMap_append,List.flatMap_cons]
 rw[this];rfl
section
variable {h:AH} {M:Nat->Prop} {R:AE->AH->Prop} {x:AV} {l:List (COp×AV)} {q b:Int} {n1:Nat}
theorem spoil_ok(ha:FN n1 h x l)(hl:l.length<=1000000)(hql:∀y∈l,y.1.qubits.length<=1000000)(hM:∀id,n1<=id->id<h.next->M id)
  (hR:∀h',Fr h h' (RS x l)->R (.ret (tupOf [])) h'):ACalls Try.prog 13 [.agg [I q,I b,x]] h M R:=by
 apply F13.callsN
 unfold F13.n16
 refine box_var (cs:=[I q,I b,x]) (by simp only[List.all_cons,ha.o.toR.one.1];rfl) fun vc h1 f1 hn1 hoc=>?_
 unfold F13.n15
 refine var_fld hoc rfl fun _=>?_
 simp only[ha.o.toR.len.1,ha.o.toR.len.2,zH]
 unfold F13.n14
 have hnx:∀id,RS x l id->n1<=id/\id<h.next:=fun id hs=>by
  rcases hs with⟨n,e⟩ |⟨y,hy,n,e⟩
  ·exact⟨ha.n _ _ _ e,ha.lt _ _ _ (.inl e)⟩
  ·exact⟨(ha.qs y hy).2 _ _ _ e,ha.lt _ _ _ (.inr ⟨y,hy,e⟩)⟩
 have hW:∀id,RS x l id->(M id\/h.next<=id):=fun id hs=>.inl (hM id (hnx id hs).1 (hnx id hs).2)
 have hlt1:=h1.lt _ _ hoc
 refine vLoop_of (ι:=Nat) (fun i v h'=>∃S:List (COp×AV),v=[.ptr vc 0,I l.length,I i]/\i<=l.length/\S.length=i/\Fr h h' (RS x (l.take i))/\h'.obj vc=some (mkO [I q,I b,x] 3 24)/\SlL encO 7 45 h' x (S++l.drop i)) (fun i=>l.length-i) 0
  ⟨[],rfl,by omega,rfl,f1.mono fun _ h=>h.elim,hoc,slL_f0 ha.o f1⟩ ?_
 rintro K i v h2 ⟨S,rfl,hi,hS,f2,hoc,hx2⟩ hK
 simp only[F13.g1_,zN,zO,F13.n13,pBin_lss]
 by_cases hlt:i<l.length
 case neg=>
  have hnl:¬(i:Int)<l.length:=by omega
  rw[List.take_of_length_le (by omega)]at f2
  simp only[zK hnl,F13.n12,aIf_b,zD,zE,zC,zH,if_false,Nat.zero_ne_one]
  exact hR h2 f2
 have hli:(i:Int)<l.length:=by omega
 have w1:IntKind.i64.wrap ((i:Int)+1)=((i+1:Nat):Int):=by rw[wrap_in (by omega) (by omega)];simp
 have g0:l[i]?=some l[i]:=zJ hlt
 have gd:=List.drop_eq_getElem_cons hlt
 have htk:l.take (i+1)=l.take i++[l[i]]:=by rw[List.take_add_one,g0];rfl
 have hpwi:∀y∈l.take i,Sep y.2 l[i].2:=fun y hy=>by
  have h3:(l.take (i+1)).Pairwise fun a b=>Sep a.2 b.2:=ha.pw.sublist (List.take_sublist _ _)
  rw[htk,List.pairwise_append]at h3
  exact h3.2.2 y hy _ (List.mem_singleton.2 rfl)
 generalize l[i]=y at *
 have hmy:=zP g0
 obtain⟨qy,qyn⟩:=ha.qs y hmy
 rw[gd]at hx2
 obtain⟨ida,rfl⟩:∃ida,x=.sl ida 0 l.length:=by
  rcases ha.o with⟨_,e⟩ |⟨ida,e,_⟩
  ·rw[e]at hlt;simp at hlt
  ·exact⟨ida,e⟩
 have hoa0:h.obj ida=some (mkO (l.flatMap encO) 7 45):=by
  rcases ha.o with⟨e,_⟩ |⟨j,e,ho⟩
  ·cases e
  ·cases e;exact ho
 have hoa:h2.obj ida=some (mkO ((S++y::l.drop (i+1)).flatMap encO) 7 45):=by
  rcases hx2 with⟨e,_⟩ |⟨j,e,ho⟩
  ·cases e
  ·injection e with e _ _
   subst e;exact ho
 have hlen:(S++y::l.drop (i+1)).length=l.length:=by simp;omega
 have gi:(S++y::l.drop (i+1))[i]?=some y:=by rw[List.getElem?_append_right (by omega),hS,Nat.sub_self];rfl
 have qy2:SlL encI 1 3 h2 y.2 y.1.qubits:=qy.of_fr f2 fun id e hs=>by
  rcases hs with⟨n,e2⟩ |⟨z,hz,n,e2⟩
  ·cases e2
   rcases qy with⟨e3,_⟩ |⟨j,e3,hj⟩
   ·rw[e3]at e;cases e
   ·rw[e3]at e;cases e;exact obj_ne hj hoa0 (show(3:Nat)≠45 by decide) rfl
  ·exact hpwi z hz _ _ _ _ _ e2 e
 have idaW:M ida\/h.next<=ida:=hW ida (.inl ⟨_,rfl⟩)
 simp only[zL hli,F13.n12,aIf_b,zD,zF,zC,zI]
 unfold F13.n11 F13.n10
 refine var_fld hoc rfl fun _=>?_
 have hxR:SlR encO 7 45 h2 (.sl ida 0 l.length) (S++y::l.drop (i+1)):=.inr (.inr ⟨ida,[],false,45,by rw[hlen],fun _=>rfl,by simpa[mkO] using hoa⟩)
 refine rng_fld hxR encO_len gi (by decide) (v:=y.2) rfl fun _=>?_
 simp only[qy2.toR.len.1,qy2.toR.len.2,zH]
 unfold F13.n9
 refine vLoop_of (ι:=Nat) (fun j v h'=>∃L:List Int,v=[.ptr vc 0,I i,I l.length,I i,I y.1.qubits.length,I j]/\j<=y.1.qubits.length/\L.length=y.1.qubits.length/\Fr h2 h' (fun id=>∃n,y.2=.sl id 0 n)/\SlL encI 1 3 h' y.2 L) (fun j=>y.1.qubits.length-j) 0
  ⟨y.1.qubits,rfl,by omega,rfl,Fr.refl,qy2⟩ ?_
 rintro K2 j v h3 ⟨L,rfl,hj,hL,f3,hq3⟩ hK2
 have hyq:∀id,(∃n,y.2=.sl id 0 n)->∃cs,h2.obj id=some (mkO cs 1 3):=fun id ⟨n,e⟩=>by
  rcases qy2 with⟨e2,_⟩ |⟨k,e2,hk⟩
  ·rw[e2]at e;cases e
  ·rw[e2]at e;cases e;exact⟨_,hk⟩
 have no3:∀{id:Nat}{cs:List AV}{sz:Nat}{ty:TypeId},ty≠3->h2.obj id=some (mkO cs sz ty)->¬ ∃n,y.2=.sl id 0 n:=fun ht ho hs=>by
  obtain⟨cs',ho'⟩:=hyq _ hs
  exact obj_ne ho ho' ht rfl
 have hoc3:=f3.obj hoc (no3 (by decide) hoc)
 have hoa3:=f3.obj hoa (no3 (by decide) hoa)
 have hxR3:SlR encO 7 45 h3 (.sl ida 0 l.length) (S++y::l.drop (i+1)):=.inr (.inr ⟨ida,[],false,45,by rw[hlen],fun _=>rfl,by simpa[mkO] using hoa3⟩)
 have hWy:∀id,(∃n,y.2=.sl id 0 n)->(M id\/h.next<=id):=fun id ⟨n,e⟩=>hW id (.inr ⟨y,hmy,n,e⟩)
 simp only[F13.g2_,zN,zO,F13.n8,pBin_lss]
 by_cases hjl:j<y.1.qubits.length
 ·have hlj:(j:Int)<y.1.qubits.length:=by omega
  have hqy:=hql y hmy
  have w2:IntKind.i64.wrap ((j:Int)+1)=((j+1:Nat):Int):=by rw[wrap_in (by omega) (by omega)];simp
  simp only[zL hlj,F13.n7,aIf_b,zD,zF,zC,zI]
  unfold F13.n6 F13.n5
  refine var_fld hoc3 rfl fun _=>?_
  refine rng_fld hxR3 encO_len gi (by decide) (v:=y.2) rfl fun _=>?_
  obtain⟨idq,e⟩:=hq3.sl (List.ne_nil_of_length_pos (by omega))
  have hoq:h3.obj idq=some (mkO (L.flatMap encI) 1 3):=by
   rcases hq3 with⟨e2,_⟩ |⟨k,e2,hk⟩
   ·rw[e2]at e;cases e
   ·rw[e2]at e;cases e;exact hk
  rw[e]
  refine pIxA_at (by omega) ?_
  simp only[eStore_f,hoq,avC_int,stk_mk]
  refine⟨⟨hWy _ ⟨_,e⟩,rfl,rfl,by rw[flat_len encI_len];show j*1+1<=_;omega⟩,?_⟩
  have o4:=put_mk (off:=j*1) (cs:=[I (-5)]) hoq
  have f4:Fr h3 (h3.put idq (j*1) [I (-5)]) (·=idq):=Fr.refl.put (.inl rfl)
  rw[set_put (by omega)]at o4
  generalize h3.put idq (j*1) [I (-5)]=h4 at *
  simp only[F13.n4,pBin_add,w2]
  refine hK2 (j+1) _ _ (by omega) ⟨L.set j (-5),rfl,by omega,by rw[List.length_set];exact hL,f3.trans (f4.mono fun id he=>.inl ⟨_,he ▸ e⟩),.inr ⟨idq,by rw[List.length_set];exact e,o4⟩⟩
 have hnl:¬(j:Int)<y.1.qubits.length:=by omega
 simp only[zK hnl,F13.n7,aIf_b,zD,zE,zC,zH,zV,zN,zO]
 unfold F13.n3
 refine⟨fun _=>vc,fun _ _=>by rw[hoc3];simp,?_⟩
 refine var_fldI hoc3 rfl ⟨rfl,?_⟩
 refine var_fld hoc3 rfl fun _=>?_
 refine rng_fld hxR3 encO_len gi (by decide) (v:=y.2) rfl fun _=>?_
 have hqy:=hql y hmy
 have hvc:h.next<=vc:=hn1
 refine appv (f:=encI) (t:=-6) encI_len (by decide) rfl (by decide) rfl rfl hq3 (fun id off n e=>?_) (by omega) fun y2 h4 hy2 hiy f34'=>?_
 ·obtain⟨id0,e0⟩:∃id0,y.2=.sl id0 0 L.length:=by
   rcases hq3 with⟨e2,_⟩ |⟨k,e2,_⟩
   ·rw[e2]at e;cases e
   ·exact⟨k,e2⟩
  rw[e0]at e;cases e
  exact⟨hWy _ ⟨_,e0⟩,fun _ _ (he:id=vc)=>by have:=(hnx id (.inr ⟨y,hmy,_,e0⟩)).2;omega⟩
 have f34:Fr h3 h4 (fun id=>∃n,y.2=.sl id 0 n):=f34'.mono fun id ⟨off,n,e⟩=>by
  rcases hq3 with⟨e2,_⟩ |⟨k,e2,_⟩
  ·rw[e2]at e;cases e
  ·rw[e2]at e;cases e;exact⟨_,e2⟩
 have f24:Fr h2 h4 (fun id=>∃n,y.2=.sl id 0 n):=f3.trans (f34.mono fun _ h=>.inl h)
 have hoc4:=f24.obj hoc (no3 (by decide) hoc)
 have hoa4:=f24.obj hoa (no3 (by decide) hoa)
 have hy2o:=hy2.toR.one
 refine pIxA_at hlt ?_
 simp only[pFld_ptr,eStore_f,hoa4,hy2o.2,stk_mk]
 have hfl:∀z:COp×AV,((S++z::l.drop (i+1)).flatMap encO).length=l.length*7:=fun z=>by rw[flat_len encO_len];simp;omega
 refine⟨⟨idaW,by simp only[List.all_cons,hy2o.1];rfl,rfl,by rw[hfl];show i*7+2+1<=_;omega⟩,?_⟩
 have o5:=put_mk (off:=i*7+2) (cs:=[y2]) hoa4
 have f5:Fr h4 (h4.put ida (i*7+2) [y2]) (·=ida):=Fr.refl.put (.inl rfl)
 rw[set2_put hS]at o5
 generalize h4.put ida (i*7+2) [y2]=h5 at *
 have hoc5:=f5.obj hoc4 (obj_ne hoc4 hoa4 (show(24:Nat)≠45 by decide))
 unfold F13.n2
 refine var_fld hoc5 rfl fun _=>?_
 refine pIxA_at hlt ?_
 simp only[pFld_ptr,eStore_f,o5,avC_str,stk_mk]
 refine⟨⟨idaW,rfl,rfl,by rw[hfl];show i*7+1+1<=_;omega⟩,?_⟩
 have o6:=put_mk (off:=i*7+1) (cs:=[Sb ⟨#[115,112,111,105,108,116]⟩]) o5
 have f6:Fr h5 (h5.put ida (i*7+1) [Sb ⟨#[115,112,111,105,108,116]⟩]) (·=ida):=Fr.refl.put (.inl rfl)
 rw[set1_put hS]at o6
 generalize h5.put ida (i*7+1) [Sb ⟨#[115,112,111,105,108,116]⟩]=h6 at *
 have hoc6:=f6.obj hoc5 (obj_ne hoc5 o5 (show(24:Nat)≠45 by decide))
 simp only[F13.n1,pBin_add,w1]
 have f06:Fr h h6 (RS (.sl ida 0 l.length) (l.take (i+1))):=by
  rw[htk]
  refine(f2.mono fun id hs=>?_).trans ((f24.mono fun id hs=>?_).trans ((f5.trans (f6.mono fun _ h=>.inl h)).mono fun id he=>?_))
  ·rcases hs with hs |⟨z,hz,hs⟩
   ·exact .inl hs
   ·exact .inr ⟨z,List.mem_append_left _ hz,hs⟩
  ·exact .inl (.inr ⟨y,List.mem_append_right _ (List.mem_singleton.2 rfl),hs⟩)
  ·exact .inl (.inl (.inl ⟨l.length,by rw[he]⟩))
 refine hK (i+1) _ _ (by omega) ⟨S++[({ y.1 with name:=⟨#[115,112,111,105,108,116]⟩ },y2)],rfl,by omega,by simp;omega,f06,hoc6,.inr ⟨ida,by congr 1;simp;omega,?_⟩⟩
 rw[List.append_assoc];exact o6
end
end
section
open Go.Ab
attribute [-simp] eAlloc_d eStore_f
def op77:COp:=⟨-77,⟨#[]⟩,[],0,false,0,0⟩
structure LN (n0:Nat) (h:AH) (x:AV) (L:List (COp×AV)):Prop where
 o:∃id,x=.sl id 0 L.length/\n0<=id/\h.obj id=some (mkO ((L++[(op77,nilS)]).flatMap encO) 7 45)
 qs:∀y∈L,∃id,y.2=.sl id 0 y.1.qubits.length/\n0<=id/\h.obj id=some (mkO ((y.1.qubits++[-77]).flatMap encI) 1 3)
theorem LN.fr0{n:Nat}{h h':AH}{x:AV}{L:List (COp×AV)}(a:LN n h x L)(f:Fr h h' fun _=>False):LN n h' x L:=by
 obtain⟨id,e1,e2,e3⟩:=a.o
 exact⟨⟨id,e1,e2,f.ob0 e3⟩,fun y hy=>by
  obtain⟨j,e4,e5,e6⟩:=a.qs y hy
  exact⟨j,e4,e5,f.ob0 e6⟩⟩
theorem LN.q{n:Nat}{h:AH}{x:AV}{L:List (COp×AV)}(a:LN n h x L){y:COp×AV}(hy:y∈L):SlR encI 1 3 h y.2 y.1.qubits:=by
 obtain⟨j,e4,e5,e6⟩:=a.qs y hy
 exact .inr (.inr ⟨j,[-77].flatMap encI,false,3,e4,fun _=>rfl,by rw[e6];simp[mkO]⟩)
theorem LN.ops{n:Nat}{h:AH}{x:AV}{L:List (COp×AV)}(a:LN n h x L):OpsL h x L:=by
 obtain⟨id,e1,e2,e3⟩:=a.o
 exact⟨.inr (.inr ⟨id,[(op77,nilS)].flatMap encO,false,45,e1,fun _=>rfl,by rw[e3];simp[mkO]⟩),fun y hy=>a.q hy⟩
theorem LN.shape{n:Nat}{h:AH}{x:AV}{L:List (COp×AV)}(a:LN n h x L):slShape x L.length:=by
 obtain⟨id,e1,_⟩:=a.o
 exact .inr ⟨id,e1⟩
section
variable {W:Nat->Prop} {QR QN:VK} {QE:Nat->VK} {QP:AV->AH->Prop} {h:AH} {xo x2 x3 x12 x13 x14:AV} {o:COp} {vo:Nat}
theorem F8_row(hW:∀id,h.next<=id->W id)(hWo:W vo)(ho:h.obj vo=some (mkO (encO (o,xo)) 7 45))(hq:SlR encI 1 3 h xo o.qubits)(hl:o.qubits.length<=1000000)
  (hR:∀id h',Fr h h' (·=vo)->h.next<=id->h'.obj id=some (mkO ((o.qubits++[-77]).flatMap encI) 1 3)->h'.obj vo=some (mkO (encO (o,.sl id 0 o.qubits.length)) 7 45)->F8.n4 W QR QN QE QP x2 x3 (.ptr vo 0) x12 x13 x14 h') :
  F8.n5 W QR QN QE QP x2 x3 (.ptr vo 0) x12 x13 x14 h:=by
 have hvl:=h.lt _ _ ho
 unfold F8.n5
 refine⟨fun _=>vo,fun _ _=>by rw[ho];simp,?_⟩
 refine var_fld ho rfl fun _=>?_
 refine var_fldI ho rfl ⟨rfl,?_⟩
 simp only[hq.len.1,hq.len.2,zH]
 have fin:∀(y:AV)(h1:AH){Kf:AH->Prop},Fr h h1 (fun _=>False)->SlL encI 1 3 h1 y (o.qubits++[-77])->InS (h.next<=·) y->(∀h',F8.n4 W QR QN QE QP x2 x3 (.ptr vo 0) x12 x13 x14 h'->Kf h') ->
   pSlL (some 1) y none (some (I o.qubits.length)) h1 fun t46=>pFld (some 2) (.ptr vo 0) fun t47=>eStore (some 1) t47 t46 h1 W Kf:=fun y h1 Kf f1 hy hin hK=>by
  obtain⟨id,rfl⟩:=hy.sl (by simp)
  have hoy:h1.obj id=some (mkO ((o.qubits++[-77]).flatMap encI) 1 3):=by
   rcases hy with⟨e,_⟩ |⟨j,e,hj⟩
   ·cases e
   ·injection e with e _ _
    subst e;exact hj
  refine pSlL_up hoy (by decide) (by rw[flat_len encI_len];simp) ?_
  refine var_st (f1.ob0 ho) (by simp[encO]) rfl rfl hWo fun h2 f2 ho2=>hK _ ?_
  exact hR id h2 (f1.mono (fun _ h=>h.elim) |>.trans (f2.mono fun _ h=>.inl h)) (hin _ _ _ rfl) (f2.obj hoy (obj_ne hoy (f1.ob0 ho) (show(3:Nat)≠45 by decide))) ho2
 have ban:∀{id:Nat},h.next<=id->(W id/\∀i∈[7],id≠(fun _=>vo) i):=fun{id} hid=>⟨hW _ hid,fun _ _ (e:id=vo)=>by omega⟩
 have cp:∀(z:AV)(h1:AH){Kf:AV->AH->Prop},Fr h h1 (fun _=>False)->SlL encI 1 3 h1 z []->InS (h.next<=·) z->(∀y h2,Fr h h2 (fun _=>False)->Fr h1 h2 (fun i=>h.next<=i/\∃off n,z=.sl i off n)->SlL encI 1 3 h2 y o.qubits->InS (h.next<=·) y->Kf y h2) ->
   eApp (some (1,8,3)) z xo h1 (fun id=>W id/\∀i∈[7],id≠(fun _=>vo) i) Kf:=fun z h1 Kf f1 hz hin hK=>by
  refine appR encI_len (by decide) hz (hq.fr0 f1) (fun i of n e=>ban (hin i of n e)) (by simp;omega) fun y h2 hy hor f2=>?_
  have hy:SlL encI 1 3 h2 y o.qubits:=by simpa using hy
  refine hK y h2 (f1.trans (f2.mono fun i ⟨of,n,e⟩=>.inr (hin i of n e))) (f2.mono fun i ⟨of,n,e⟩=>⟨hin i of n e,of,n,e⟩) hy fun i of n e=>?_
  rcases hor with⟨e2,_⟩ |h3
  ·rw[e2]at e;exact hin i of n e
  ·exact zR f1.next (h3 i of n e)
 have mk:∀(y t:AV)(h1:AH){Kf:AV->AH->Prop},Fr h h1 (fun _=>False)->SlL encI 1 3 h1 y o.qubits->SlR encI 1 3 h1 t [-77]->InS (h.next<=·) y->(∀y2 h2,Fr h h2 (fun _=>False)->SlL encI 1 3 h2 y2 (o.qubits++[-77])->InS (h.next<=·) y2->Kf y2 h2) ->
   eApp (some (1,8,3)) y t h1 (fun id=>W id/\∀i∈[7],id≠(fun _=>vo) i) Kf:=fun y t h1 Kf f1 hy ht hin hK=>by
  refine appR encI_len (by decide) hy ht (fun i of n e=>ban (hin i of n e)) (by simp;omega) fun y2 h2 hy2 hor f2=>?_
  refine hK y2 h2 (f1.trans (f2.mono fun i ⟨of,n,e⟩=>.inr (hin i of n e))) hy2 fun i of n e=>?_
  rcases hor with⟨_,e2⟩ |h3
  ·cases e2
  ·exact zR f1.next (h3 i of n e)
 refine⟨?_,?_,trivial⟩
 ·refine bsl_0 fun z h1 hz hn1 f1=>?_
  have hz1:SlL encI 1 3 h1 (.sl z 0 0) []:=.inr ⟨z,rfl,hz⟩
  have hi1:InS (h.next<=·) (.sl z 0 0):=fun i of n e=>by cases e;exact hn1
  refine⟨?_,?_,trivial⟩
  ·refine cp _ h1 f1 hz1 hi1 fun y h2 f2 _ hy hin=>?_
   refine bsl_new (cells:=[I (-77)]) ⟨rfl,rfl⟩ fun w h3 f3 hw how=>?_
   refine mk y _ h3 (f2.tr0 f3) (slL_f0 hy f3) (.inr (.inr ⟨w,[],false,3,rfl,fun _=>rfl,how⟩)) hin fun y2 h4 f4 hy2 hin2=>?_
   exact fin y2 h4 f4 hy2 hin2 fun _ h=>h
  ·refine bsl_new (cells:=[I (-77)]) ⟨rfl,rfl⟩ fun w h2 f2 hw how=>?_
   have hzw:z<h1.next:=h1.lt _ _ hz
   refine cp _ h2 (f1.tr0 f2) (slL_f0 hz1 f2) hi1 fun y h3 f3 g3 hy hin=>?_
   have how3:h3.obj w=some (mkO [I (-77)] 1 3):=g3.obj how fun⟨_,of,n,e⟩=>by cases e;omega
   refine mk y _ h3 f3 hy (.inr (.inr ⟨w,[],false,3,rfl,fun _=>rfl,how3⟩)) hin fun y2 h4 f4 hy2 hin2=>?_
   exact fin y2 h4 f4 hy2 hin2 fun _ h=>h
 ·refine bsl_new (cells:=[I (-77)]) ⟨rfl,rfl⟩ fun w h1 f1 hw how=>?_
  refine bsl_0 fun z h2 hz hn2 f2=>?_
  have hww:w<h1.next:=h1.lt _ _ how
  have how2:=f2.ob0 how
  have hz2:SlL encI 1 3 h2 (.sl z 0 0) []:=.inr ⟨z,rfl,hz⟩
  refine cp _ h2 (f1.tr0 f2) hz2 (fun i of n e=>by cases e;exact zR f1.next hn2) fun y h3 f3 g3 hy hin=>?_
  have how3:h3.obj w=some (mkO [I (-77)] 1 3):=g3.obj how2 fun⟨_,of,n,e⟩=>by cases e;omega
  refine mk y _ h3 f3 hy (.inr (.inr ⟨w,[],false,3,rfl,fun _=>rfl,how3⟩)) hin fun y2 h4 f4 hy2 hin2=>?_
  exact fin y2 h4 f4 hy2 hin2 fun _ h=>h
end
section
variable {h:AH} {M:Nat->Prop} {R:AE->AH->Prop} {x xi:AV} {l li:List (COp×AV)} {q b:Int} {n0:Nat}
theorem lent_ok(hx:OpsL h x l)(hl:l.length<=1000000)(hql:∀y∈l,y.1.qubits.length<=1000000)
  (hR:∀xi li h',Fr h h' (fun _=>False)->LN h.next h' xi li->li.map (·.1)=l.map (·.1)->R (.ret (.agg [I q,I b,xi])) h'):ACalls Try.prog 8 [.agg [I q,I b,x]] h M R:=by
 apply F8.callsN
 unfold F8.n12
 refine box_var (cs:=[I q,I b,x]) (by simp only[List.all_cons,hx.tab.one.1];rfl) fun vc h1 f1 hn1 hoc=>?_
 simp only[eAlloc_d]
 refine⟨rfl,?_⟩
 have hor:=AH.alloc_new h1 (mkO (([.int .i64 0,.int .i64 0,.slice none 0 0]:List Value).map AV.sc) 3 24)
 have f2:Fr h1 (h1.alloc (mkO (([.int .i64 0,.int .i64 0,.slice none 0 0]:List Value).map AV.sc) 3 24)) (fun _=>False):=Fr.refl.alloc _
 have hvr:h.next<=h1.next:=f1.next
 generalize h1.alloc (mkO (([.int .i64 0,.int .i64 0,.slice none 0 0]:List Value).map AV.sc) 3 24)=h2 at *
 generalize h1.next=vr at *
 have hoc:=f2.ob0 hoc
 have f12:=f1.tr0 f2
 unfold F8.n11
 refine var_fld hoc rfl fun _=>?_
 refine var_fld hoc rfl fun _=>?_
 refine⟨[I q,I b,nilS],rfl,?_⟩
 refine new_var (cs:=[I q,I b,nilS]) rfl rfl rfl rfl (fun id hid=>.inr (zR f12.next hid)) fun vd h3 f3 hn3 hod=>?_
 have hoc:=f3.ob0 hoc
 have hor:=f3.ob0 hor
 have f13:=f12.tr0 f3
 have hvd:h.next<=vd:=zR f12.next hn3
 have hdr:vr≠vd:=by have:=h2.lt vr _ (by assumption);omega
 unfold F8.n10
 refine var_fld hoc rfl fun _=>?_
 simp only[hx.tab.len.1,hx.tab.len.2,zH]
 unfold F8.n9
 refine vLoop_of (ι:=Nat) (fun i v h'=>∃acc L,v=[.ptr vr 0,.ptr vd 0,x,I l.length,I i]/\i<=l.length/\Fr h h' (fun _=>False)/\h'.obj vd=some (mkO [I q,I b,acc] 3 24)/\h'.obj vr=some (mkO (([.int .i64 0,.int .i64 0,.slice none 0 0]:List Value).map AV.sc) 3 24) /\
  SlL encO 7 45 h' acc L/\InS (h.next<=·) acc/\(∀y∈L,∃id,y.2=.sl id 0 y.1.qubits.length/\h.next<=id/\h'.obj id=some (mkO ((y.1.qubits++[-77]).flatMap encI) 1 3))/\L.map (·.1)=(l.take i).map (·.1)) (fun i=>l.length-i) 0
  ⟨nilS,[],rfl,by omega,f13,hod,hor,.nil,(fun _ _ _ e=>nomatch e),(fun _ h=>by cases h),rfl⟩ ?_
 rintro K i v h4 ⟨acc,L,rfl,hi,f4,hod,hor,hacc,hin,hqs,he⟩ hK
 have hLn:L.length=i:=by
  have:=congrArg List.length he
  simp only[zZ,yA]at this;omega
 simp only[F8.g1_,zN,zO,F8.n8,pBin_lss]
 have hx4:=hx.fr0 f4
 by_cases hlt:i<l.length
 ·have hli:(i:Int)<l.length:=by omega
  have w1:IntKind.i64.wrap ((i:Int)+1)=((i+1:Nat):Int):=by rw[wrap_in (by omega) (by omega)];simp
  have g0:l[i]?=some l[i]:=zJ hlt
  generalize l[i]=y at *
  have hmy:=zP g0
  have qy:=hx4.qs _ hmy
  simp only[zL hli,F8.n7,aIf_b,zD,zF,zC,zI]
  unfold F8.n6
  refine rng_var hx4.tab encO_len (encO_one qy.one.1) g0 rfl rfl (fun id hid=>.inr (zR f4.next hid)) fun vo h5 f5 hn5 hoo=>?_
  have f45:=f4.tr0 f5
  have hod:=f5.ob0 hod
  have hor:=f5.ob0 hor
  refine F8_row (fun id hid=>.inr (zR f45.next hid)) (.inr (zR f4.next hn5)) hoo (qy.fr0 f5) (hql _ hmy) fun idq h6 f6 hidq hoq hoo2=>?_
  have f46:=fr_set f45 (zR f4.next hn5) f6
  have hod:=f6.obj hod (obj_ne hod hoo (show(24:Nat)≠45 by decide))
  have hor:=f6.obj hor (obj_ne hor hoo (show(24:Nat)≠45 by decide))
  have ha6:SlL encO 7 45 h6 acc L:=(slL_f0 hacc f5).of_fr f6 fun id e he2=>by
   have he2:id=vo:=he2
   have h1:=slL_lt hacc _ _ _ e
   omega
  have hqs6:∀y∈L,∃id,y.2=.sl id 0 y.1.qubits.length/\h.next<=id/\h6.obj id=some (mkO ((y.1.qubits++[-77]).flatMap encI) 1 3):=fun z hz=>by
   obtain⟨id,e1,e2,e3⟩:=hqs z hz
   have e4:=f5.ob0 e3
   exact⟨id,e1,e2,f6.obj e4 (obj_ne e4 hoo (show(3:Nat)≠45 by decide))⟩
  unfold F8.n4
  refine var_fld hod rfl fun _=>?_
  refine var_ld hoo2 rfl fun _=>?_
  refine app1t (f:=encO) (t:=(y.1,AV.sl idq 0 y.1.qubits.length)) encO_len (by decide) rfl (by decide) rfl ha6 (fun id off n e=>.inr (hin id off n e)) (by omega) fun z h7 hz hiz hfr hnx=>?_
  have f67:Fr h6 h7 (fun i=>∃off n,acc=.sl i off n):=⟨hnx,fun i hi hs=>hfr i hi fun off n e=>hs ⟨off,n,e⟩⟩
  have f7:Fr h h7 (fun _=>False):=f46.trans (f67.mono fun id ⟨off,n,e⟩=>.inr (hin id off n e))
  have no:∀{i:Nat}{cs:List AV}{sz:Nat}{ty:TypeId},ty≠45->h6.obj i=some (mkO cs sz ty)->¬ ∃off n,acc=.sl i off n:=fun{i cs sz ty} ht hi2 ⟨off,n,e⟩=>by
   rcases ha6 with⟨e2,_⟩ |⟨j,e2,hj⟩
   ·rw[e2]at e;cases e
   ·rw[e2]at e;cases e
    exact obj_ne hi2 hj ht rfl
  have hod:=f67.obj hod (no (by decide) hod)
  have hor:=f67.obj hor (no (by decide) hor)
  have hzo:=hz.toR.one
  refine var_st hod (by simp) hzo.1 hzo.2 (.inr hvd) fun h8 f8 hod8=>?_
  have hor:=f8.obj hor hdr
  simp only[F8.n3,pBin_add,w1]
  refine hK (i+1) _ _ (by omega) ⟨z,L++[(y.1,AV.sl idq 0 y.1.qubits.length)],rfl,by omega,fr_set f7 hvd f8,hod8,hor,slL_ne hz hod (by decide) f8,fun id off n e=>zR f46.next (hiz id off n e),fun w hw=>?_,?_⟩
  ·have kp:∀{id:Nat}{cs:List AV},h6.obj id=some (mkO cs 1 3)->h8.obj id=some (mkO cs 1 3):=fun ho=>by
    have:=f67.obj ho (no (by decide) ho)
    exact f8.obj this (obj_ne this hod (show(3:Nat)≠24 by decide))
   rcases List.mem_append.1 hw with hw |hw
   ·obtain⟨id,e1,e2,e3⟩:=hqs6 w hw
    exact⟨id,e1,e2,kp e3⟩
   ·simp only[List.mem_singleton]at hw
    subst hw
    exact⟨idq,rfl,zR f45.next hidq,kp hoq⟩
  ·rw[List.map_append,he,List.take_add_one,List.map_append,g0];rfl
 ·have hnl:¬(i:Int)<l.length:=by omega
  rw[List.take_of_length_le (by omega)]at he
  simp only[zK hnl,F8.n7,aIf_b,zD,zE,zC,zH,zV,zN,zO]
  unfold F8.n2
  refine⟨fun _=>vd,fun _ _=>by rw[hod];simp,?_⟩
  refine var_fld hod rfl fun _=>?_
  refine⟨encO (op77,nilS),rfl,?_⟩
  refine var_fldI hod rfl ⟨rfl,?_⟩
  simp only[hacc.toR.len.1,hacc.toR.len.2,zH]
  have hdlt:=h4.lt _ _ hod
  refine app1t (f:=encO) (t:=(op77,nilS)) encO_len (by decide) rfl (by decide) rfl hacc (fun id off n e=>⟨.inr (hin id off n e),fun _ _ (e2:id=vd)=>?_⟩) (by omega) fun z h7 hz hiz hfr hnx=>?_
  ·rcases hacc with⟨e3,_⟩ |⟨j,e3,hj⟩
   ·rw[e3]at e;cases e
   ·rw[e3]at e;cases e
    exact obj_ne hj hod (show(45:Nat)≠24 by decide) e2
  have f67:Fr h4 h7 (fun i=>∃off n,acc=.sl i off n):=⟨hnx,fun i hi hs=>hfr i hi fun off n e=>hs ⟨off,n,e⟩⟩
  have f7:Fr h h7 (fun _=>False):=f4.trans (f67.mono fun id ⟨off,n,e⟩=>.inr (hin id off n e))
  have no:∀{i:Nat}{cs:List AV}{sz:Nat}{ty:TypeId},ty≠45->h4.obj i=some (mkO cs sz ty)->¬ ∃off n,acc=.sl i off n:=fun{i cs sz ty} ht hi2 ⟨off,n,e⟩=>by
   rcases hacc with⟨e2,_⟩ |⟨j,e2,hj⟩
   ·rw[e2]at e;cases e
   ·rw[e2]at e;cases e
    exact obj_ne hi2 hj ht rfl
  have hod:=f67.obj hod (no (by decide) hod)
  have hor:=f67.obj hor (no (by decide) hor)
  obtain⟨idz,rfl⟩:=hz.sl (by simp)
  have hoz:h7.obj idz=some (mkO ((L++[(op77,nilS)]).flatMap encO) 7 45):=by
   rcases hz with⟨e,_⟩ |⟨j,e,hj⟩
   ·cases e
   ·injection e with e _ _
    subst e;exact hj
  refine pSlL_up hoz (by decide) (by rw[flat_len encO_len];simp;omega) ?_
  refine var_st hod (by simp) rfl rfl (.inr hvd) fun h8 f8 hod8=>?_
  have hor:=f8.obj hor hdr
  have hoz8:=f8.obj hoz (obj_ne hoz hod (show(45:Nat)≠24 by decide))
  have kp:∀{id:Nat}{cs:List AV},h4.obj id=some (mkO cs 1 3)->h8.obj id=some (mkO cs 1 3):=fun ho=>by
   have:=f67.obj ho (no (by decide) ho)
   exact f8.obj this (obj_ne this hod (show(3:Nat)≠24 by decide))
  unfold F8.n1
  refine var_ld hod8 rfl fun _=>?_
  simp only[eStore_f,hor,avC_agg,stk_mk]
  refine⟨⟨.inr hvr,rfl,rfl,by simp⟩,?_⟩
  rw[show([I q,I b,acc]:List AV).set 2 (.sl idz 0 L.length)=[I q,I b,.sl idz 0 L.length] from rfl]
  have o9:(h8.put vr 0 [I q,I b,.sl idz 0 L.length]).obj vr=some (mkO [I q,I b,.sl idz 0 L.length] 3 24):=by rw[put_row hor];rfl
  have f9:Fr h8 (h8.put vr 0 [I q,I b,.sl idz 0 L.length]) (·=vr):=Fr.refl.put (.inl rfl)
  have fin:=hR (.sl idz 0 L.length) L _ (fr_set (fr_set f7 hvd f8) hvr f9) ⟨⟨idz,rfl,zR f4.next (hiz _ _ _ rfl),f9.obj hoz8 (obj_ne hoz8 hor (show(45:Nat)≠24 by decide))⟩,fun y hy=>by
   obtain⟨id,e1,e2,e3⟩:=hqs y hy
   exact⟨id,e1,e2,f9.obj (kp e3) (obj_ne (kp e3) hor (show(3:Nat)≠24 by decide))⟩⟩ he
  simp only[retV,aResV,ag24,sz24]
  exact var_ld o9 rfl fun _=>fin
theorem whole_ok(hi:LN n0 h xi li)(hx:OpsL h x l)(he:li.map (·.1)=l.map (·.1))(hl:l.length<=1000000)(hql:∀y∈l,y.1.qubits.length<=1000000)(hR:∀h',Fr h h' (fun _=>False)->R (.ret (B true)) h') :
  ACalls Try.prog 12 [.agg [I q,I b,xi],.agg [I q,I b,x]] h M R:=by
 have hll:li.length=l.length:=by simpa using congrArg List.length he
 have hqi:∀y∈li,y.1.qubits.length<=1000000:=fun y hy=>by
  have:y.1∈l.map (·.1):=by rw[<-he];exact List.mem_map_of_mem hy
  obtain⟨z,hz,e⟩:=List.mem_map.1 this
  rw[<-e];exact hql z hz
 apply F12.callsN
 unfold F12.n16
 refine box_var (cs:=[I q,I b,xi]) (by simp only[List.all_cons,hi.ops.tab.one.1];rfl) fun va h1 f1 hn1 hoa=>?_
 refine box_var (cs:=[I q,I b,x]) (by simp only[List.all_cons,hx.tab.one.1];rfl) fun vb h2 f2 hn2 hob=>?_
 have hoa:=f2.ob0 hoa
 have f12:=f1.tr0 f2
 have hi2:=hi.fr0 f12
 have hx2:=hx.fr0 f12
 unfold F12.n15
 refine var_ld hoa rfl fun _=>?_
 refine var_ld hob rfl fun _=>?_
 refine⟨fun _=>False,fun _ h=>h.elim,equal_ok hi2.ops hx2 he (by omega) hqi fun h3 f3=>?_⟩
 have hoa:=f3.ob0 hoa
 have hob:=f3.ob0 hob
 have f13:=f12.tr0 f3
 have hi3:=hi2.fr0 f3
 have hx3:=hx2.fr0 f3
 obtain⟨id,rfl,hid,hoi⟩:=hi3.o
 have w1:IntKind.i64.wrap ((l.length:Int)+1)=((l.length+1:Nat):Int):=by rw[wrap_in (by omega) (by omega)];simp
 have c77:((li++[(op77,nilS)]).flatMap encO)[l.length*7+0]?=some (I (-77)):=by
  have:=flat_get (f:=encO) encO_len (li++[(op77,nilS)]) l.length 0 (by omega)
  rw[this,<-hll,List.getElem?_append_right (zU _),Nat.sub_self];rfl
 simp only[pUn_not,zS]
 unfold F12.n14
 simp only[aIg_b,zT,zE,zD,zC,zH,zI,zF]
 refine var_fld hoa rfl fun _=>?_
 refine var_fld hob rfl fun _=>?_
 simp only[hx3.tab.len.1,hx3.tab.len.2,zH,pBin_add,w1]
 refine pSlL_up hoi (by decide) (by rw[flat_len encO_len];simp;omega) ?_
 refine var_fld hob rfl fun _=>?_
 simp only[hx3.tab.len.1,hx3.tab.len.2,zH]
 refine pIxA_at (by omega) ?_
 simp only[pFld_ptr,lLd_f,hoi,ldk_mk,c77,cellK_some,pBin_neq,bne_self_eq_false,F12.n13,pPick_b,zE,if_false,F12.n12,aIf_b,zD,zC,zH]
 unfold F12.n10
 refine var_fld hoa rfl fun _=>?_
 simp only[hi3.ops.tab.len.1,hi3.ops.tab.len.2,zH]
 unfold F12.n9
 refine vLoop_of (ι:=Nat) (fun i v h'=>v=[.sl id 0 li.length,I li.length,I i]/\i<=li.length/\Fr h h' (fun _=>False)) (fun i=>li.length-i) 0 ⟨rfl,by omega,f13⟩ ?_
 rintro K i v h4 ⟨rfl,hil,f4⟩ hK
 have hi4:=hi.fr0 f4
 simp only[F12.g1_,zN,zO,F12.n8,pBin_lss]
 by_cases hlt:i<li.length
 ·have hli:(i:Int)<li.length:=by omega
  have w2:IntKind.i64.wrap ((i:Int)+1)=((i+1:Nat):Int):=by rw[wrap_in (by omega) (by omega)];simp
  have g0:li[i]?=some li[i]:=zJ hlt
  generalize li[i]=y at *
  have hmy:=zP g0
  have hqy:=hqi y hmy
  obtain⟨idq,eq,hidq,hoq⟩:=hi4.qs y hmy
  obtain⟨o,xq⟩:=y
  simp only at eq hqy hoq
  subst eq
  simp only[zL hli,F12.n7,aIf_b,zD,zF,zC,zI]
  unfold F12.n6
  refine rng_var hi4.ops.tab encO_len (encO_one (hi4.q hmy).one.1) g0 rfl rfl (fun id hid=>.inr (zR f4.next hid)) fun vo h5 f5 hn5 hoo=>?_
  have f45:=f4.tr0 f5
  have hoq:=f5.ob0 hoq
  have w3:IntKind.i64.wrap ((o.qubits.length:Int)+1)=((o.qubits.length+1:Nat):Int):=by rw[wrap_in (by omega) (by omega)];simp
  have c7:((o.qubits++[-77]).flatMap encI)[o.qubits.length*1]?=some (I (-77)):=by
   have:=flat_get (f:=encI) encI_len (o.qubits++[-77]) o.qubits.length 0 (by omega)
   rw[Nat.add_zero]at this
   rw[this,List.getElem?_append_right (zU _),Nat.sub_self];rfl
  have hq5:=(hi4.q hmy).fr0 f5
  unfold F12.n5
  refine var_fld hoo rfl fun _=>?_
  refine var_fld hoo rfl fun _=>?_
  simp only[hq5.len.1,hq5.len.2,zH,pBin_add,w3]
  refine pSlL_up hoq (by decide) (by rw[flat_len encI_len];simp) ?_
  refine var_fld hoo rfl fun _=>?_
  simp only[hq5.len.1,hq5.len.2,zH]
  refine pIxA_at (by omega) ?_
  simp only[lLd_f,hoq,ldk_mk,c7,cellK_some,pBin_neq,bne_self_eq_false,F12.n4,aIf_b,zE,zD,zC,zH,F12.n2,pBin_add,w2]
  exact hK (i+1) _ _ (by omega) ⟨rfl,by omega,f45⟩
 ·have hnl:¬(i:Int)<li.length:=by omega
  simp only[zK hnl,F12.n7,aIf_b,zD,zE,zC,zH,zV,F12.n1]
  exact hR h4 f4
end
end
section
open Go.Ab
attribute [-simp] eAlloc_d eStore_f
structure OutS where
 q:Int
 b:Int
 ops:List COp
 m:Bool
 e:Int
def outR(q b:Int)(ops:List COp):OutS:=if (checkP q b ops).2≠0 then⟨0,0,[],false,(checkP q b ops).2⟩ else⟨q,b,runT ops,false,0⟩
def SM(ops:List COp):Prop:=ops.length<=10000/\∀o∈ops,o.qubits.length<=10000
theorem CK.sm{q b:Int}{ops:List COp}(h:CK q b ops):SM ops:=⟨by have:=h.n;omega,fun o ho=>by
 have:=((fault_iff.1 (h.f o ho)).wo (y:=(o,nilS))).1.1
 simp only at this
 omega⟩
theorem SM.of{l:List (COp×AV)}{ops:List COp}(h:SM ops)(e:l.map (·.1)=ops):l.length<=10000/\∀y∈l,y.1.qubits.length<=10000:=by
 subst e
 exact⟨by simpa using h.1,fun y hy=>h.2 _ (List.mem_map_of_mem hy)⟩
theorem outR_sm{q b:Int}{ops:List COp}(hm:∀o∈ops,MOK o):SM (outR q b ops).ops:=by
 unfold outR
 split
 ·exact⟨by simp,fun _ h=>by cases h⟩
 ·rename_i e
  have hk:=check_iff.1 (by omega:(checkP q b ops).2=0)
  exact(runT_ck (zU _) hk hm).1.sm
theorem FN.nil{n:Nat}{h:AH}:FN n h nilS []:=⟨.nil,(fun _ _ _ e=>nomatch e),(fun _ h=>by cases h),.nil⟩
theorem OpsL.nil{h:AH}:OpsL h nilS []:=⟨.inl ⟨rfl,rfl⟩,(fun _ h=>by cases h)⟩
section
variable {h:AH} {M:Nat->Prop} {R:AE->AH->Prop} {x:AV} {l:List (COp×AV)} {q b:Int}
theorem optRun_u(hx:OpsL h x l)(hs:slShape x l.length)(hql:∀y∈l,y.1.qubits.length<=9000000000000000000)(hm:∀y∈l,MOK y.1)
  (hR:∀h' xo yl,Fr h h' (fun _=>False)->FN h.next h' xo yl->yl.map (·.1)=(outR q b (l.map (·.1))).ops->R (.ret (.tup [.agg [I (outR q b (l.map (·.1))).q,I (outR q b (l.map (·.1))).b,xo],I (outR q b (l.map (·.1))).e])) h') :
  ACalls Try.prog 15 [.agg [I q,I b,x]] h M R:=by
 unfold outR at hR
 refine optRun_ok hx hs hql hm (fun h' f he=>?_) fun h' xo yl f hk hn hy=>?_
 ·rw[zX he]at hR
  exact hR h' nilS [] f FN.nil rfl
 ·rw[zW (by have:=check_iff.2 hk;omega)]at hR
  exact hR h' xo yl f hn hy
theorem refRun_u(hx:OpsL h x l)(hql:∀y∈l,y.1.qubits.length<=9000000000000000000)(hm:∀y∈l,MOK y.1)
  (hR:∀h' xo yl,Fr h h' (fun _=>False)->OpsL h' xo yl->yl.map (·.1)=(outR q b (l.map (·.1))).ops->R (.ret (.tup [.agg [I (outR q b (l.map (·.1))).q,I (outR q b (l.map (·.1))).b,xo],I (outR q b (l.map (·.1))).e])) h') :
  ACalls Try.prog 14 [.agg [I q,I b,x]] h M R:=by
 unfold outR at hR
 refine refRun_ok hx hql hm (fun h' f he=>?_) fun h' xo yl f hk hn hy=>?_
 ·rw[zX he]at hR
  exact hR h' nilS [] f OpsL.nil rfl
 ·rw[zW (by have:=check_iff.2 hk;omega)]at hR
  exact hR h' xo yl f hn hy
theorem ones3{x:AV}{q b:Int}(h:oneA x=true):([I q,I b,x]:List AV).all oneA=true:=by simp only[List.all_cons,h];rfl
theorem FN.keep{n1 n2:Nat}{h h':AH}{xa xb:AV}{ya yb:List (COp×AV)}(hb:FN n2 h xb yb)(f:Fr h h' (RS xa ya))(hs:∀id,RS xa ya id->n1<=id/\id<n2):FN n2 h' xb yb:=
 ⟨hb.o.of_fr f fun id e hr=>by have:=hb.n _ _ _ e;have:=(hs id hr).2;omega,hb.n,fun y hy=>⟨(hb.qs y hy).1.of_fr f fun id e hr=>by have:=(hb.qs y hy).2 _ _ _ e;have:=(hs id hr).2;omega,(hb.qs y hy).2⟩,hb.pw⟩
theorem FN.rs{n1 n2:Nat}{h:AH}{xa:AV}{ya:List (COp×AV)}(ha:FN n1 h xa ya)(hn:h.next<=n2):∀id,RS xa ya id->n1<=id/\id<n2:=fun id hs=>by
 rcases hs with⟨n,e⟩ |⟨y,hy,n,e⟩
 ·exact⟨ha.n _ _ _ e,Nat.lt_of_lt_of_le (ha.lt _ _ _ (.inl e)) hn⟩
 ·exact⟨(ha.qs y hy).2 _ _ _ e,Nat.lt_of_lt_of_le (ha.lt _ _ _ (.inr ⟨y,hy,e⟩)) hn⟩
end
end
section
open Go.Ab
attribute [-simp] eAlloc_d eStore_f
section
variable {h:AH} {M:Nat->Prop} {R:AE->AH->Prop} {x:AV} {l:List (COp×AV)} {q b:Int}
theorem law_runs(hx:OpsL h x l)(hl:l.length<=9223372036854775807)(hm:∀y∈l,MOK y.1)(hR:∀h',R (.ret (B true)) h'):ACalls Try.prog 4 [.agg [I q,I b,x]] h M R:=by
 apply F4.callsN
 unfold F4.n43
 refine box_var (cs:=[I q,I b,x]) (ones3 hx.tab.one.1) fun vc h1 f1 hn1 hoc=>?_
 unfold F4.n42
 refine⟨fun _=>False,fun _ h=>h.elim,awake_ok fun h2 f2=>?_⟩
 have hoc:=f2.ob0 hoc
 have f12:=f1.tr0 f2
 simp only[pUn_not,zS,F4.n41,aIf_b,zE,zC,zD,zH]
 unfold F4.n39
 refine var_ld hoc rfl fun _=>?_
 refine⟨fun _=>False,fun _ h=>h.elim,great_ok (hx.fr0 f12) hl (fun h3 f3=>?_) fun h4 f3 hl80 hq80=>?_⟩
 ·simp only[F4.n38,aIf_b,zF,zC,zD,zI,F4.n37]
  exact hR h3
 simp only[F4.n38,aIf_b,zE,zC,zD,zH]
 have hoc:=f3.ob0 hoc
 have f4:=f12.tr0 f3
 have hmo:∀o∈l.map (·.1),MOK o:=fun o ho=>by obtain⟨y,hy,rfl⟩:=List.mem_map.1 ho;exact hm y hy
 have hxc:=hx.fr0 f4
 unfold F4.n36
 refine var_ld hoc rfl fun _=>?_
 refine⟨fun _=>False,fun _ h=>h.elim,lent_ok hxc (by omega) (fun y hy=>by have:=hq80 y hy;omega) fun xi li h5 f5 hli5 hei=>?_⟩
 have f45:=f4.tr0 f5
 have hoc:=f5.ob0 hoc
 refine new_var (cs:=[I q,I b,xi]) (ones3 hli5.ops.tab.one.1) rfl rfl rfl (fun id hid=>.inr (zR f45.next hid)) fun vi h6 f6 hn6 hoi=>?_
 have f46:=f45.tr0 f6
 have hoc:=f6.ob0 hoc
 have hli6:=hli5.fr0 f6
 have hxc6:=(hxc.fr0 f5).fr0 f6
 unfold F4.n35
 refine var_ld hoc rfl fun _=>?_
 refine⟨fun _=>False,fun _ h=>h.elim,refRun_u hxc6 (fun y hy=>by have:=hq80 y hy;omega) hm fun h7 xw yw f7 hxw hyw=>?_⟩
 have hSi:outR q b (li.map (·.1))=outR q b (l.map (·.1)):=by rw[hei]
 have hsmS:=outR_sm (q:=q) (b:=b) hmo
 have hcase:(outR q b (l.map (·.1))).e≠0\/(CK q b (l.map (·.1))/\outR q b (l.map (·.1))=⟨q,b,runT (l.map (·.1)),false,0⟩):=by
  unfold outR
  by_cases e:(checkP q b (l.map (·.1))).2=0
  ·right;exact⟨check_iff.1 e,by rw[zW (by omega)]⟩
  ·left;rw[zX e];exact e
 have hmi:∀y∈li,MOK y.1:=fun y hy=>hmo _ (by rw[<-hei];exact List.mem_map_of_mem hy)
 have hqi:li.length<=80/\∀y∈li,y.1.qubits.length<=80:=⟨by have:=congrArg List.length hei;simp only[zZ]at this;omega,fun y hy=>by
  have:y.1∈l.map (·.1):=by rw[<-hei];exact List.mem_map_of_mem hy
  obtain⟨z,hz,e⟩:=List.mem_map.1 this
  rw[<-e];exact hq80 z hz⟩
 generalize outR q b (l.map (·.1))=S at *
 have hslw:=hsmS.of hyw
 have f47:=f46.tr0 f7
 simp only[pExt_tup,zA,zB,cellK_some]
 refine new_var (cs:=[I S.q,I S.b,xw]) (ones3 hxw.tab.one.1) rfl rfl rfl (fun id hid=>.inr (zR f47.next hid)) fun vw h8 f8 hn8 how=>?_
 have f48:=f47.tr0 f8
 have f68:=f7.tr0 f8
 have hoc:=f68.ob0 hoc
 have hoi:=f68.ob0 hoi
 have hli8:=hli6.fr0 f68
 have hxc8:=hxc6.fr0 f68
 have hxw8:=hxw.fr0 f8
 unfold F4.n34
 refine var_ld hoi rfl fun _=>?_
 refine⟨fun _=>False,fun _ h=>h.elim,optRun_u hli8.ops hli8.shape (fun y hy=>by have:=hqi.2 y hy;omega) hmi fun h9 xa ya f9 ha hya=>?_⟩
 rw[hSi]at hya ⊢
 have hsla:=hsmS.of hya
 have f49:=f48.tr0 f9
 simp only[pExt_tup,zA,zB,cellK_some]
 refine new_var (cs:=[I S.q,I S.b,xa]) (ones3 ha.o.toR.one.1) rfl rfl rfl (fun id hid=>.inr (zR f49.next hid)) fun va h10 f10 hn10 hoa=>?_
 have f410:=f49.tr0 f10
 have f810:=f9.tr0 f10
 have hli10:=hli8.fr0 f810
 have hoi:=f810.ob0 hoi
 unfold F4.n33
 refine var_ld hoi rfl fun _=>?_
 refine⟨fun _=>False,fun _ h=>h.elim,optRun_u hli10.ops hli10.shape (fun y hy=>by have:=hqi.2 y hy;omega) hmi fun h11 xb yb f11 hb hyb=>?_⟩
 rw[hSi]at hyb ⊢
 have hslb:=hsmS.of hyb
 have f411:=f410.tr0 f11
 simp only[pExt_tup,zA,zB,cellK_some]
 refine new_var (cs:=[I S.q,I S.b,xb]) (ones3 hb.o.toR.one.1) rfl rfl rfl (fun id hid=>.inr (zR f411.next hid)) fun vb h12 f12' hn12 hob=>?_
 have f412:=f411.tr0 f12'
 have f1012:=f11.tr0 f12'
 have f812:=f810.tr0 f1012
 have hoa:=f1012.ob0 hoa
 have ha12:=(ha.fr0 f10).fr0 f1012
 have hb12:=hb.fr0 f12'
 have hrs:=(ha.fr0 f10).rs (zU _)
 unfold F4.n32
 refine var_ld hoa rfl fun _=>?_
 refine var_ld (f812.ob0 how) rfl fun _=>?_
 refine⟨fun _=>False,fun _ h=>h.elim,equal_ok ha12.ops (hxw8.fr0 f812) (hya.trans hyw.symm) (by omega) (fun y hy=>by have:=hsla.2 y hy;omega) fun h13 f13'=>?_⟩
 simp only[pUn_not,zS]
 unfold F4.n31
 simp only[aIg_b,zT,zE,zD,zC,zH,zI,zF]
 have f813:=f812.tr0 f13'
 refine var_ld (f13'.ob0 hob) rfl fun _=>?_
 refine var_ld (f813.ob0 how) rfl fun _=>?_
 refine⟨fun _=>False,fun _ h=>h.elim,equal_ok (hb12.fr0 f13').ops (hxw8.fr0 f813) (hyb.trans hyw.symm) (by omega) (fun y hy=>by have:=hslb.2 y hy;omega) fun h14 f14'=>?_⟩
 have f814:=f813.tr0 f14'
 simp only[pUn_not,zS,F4.n30,pPick_b,zE,if_false]
 simp only[F4.n29,aIg_b,zT,zE,zD,zC,zH,zI,zF,pBin_neq,bne_self_eq_false,F4.n28,pPick_b,if_false]
 simp only[F4.n27,aIg_b,zT,zE,zD,zC,zH,zI,zF,pBin_neq,bne_self_eq_false,F4.n26,pPick_b,if_false]
 unfold F4.n25
 simp only[aIg_b,zT,zE,zD,zC,zH,zI,zF]
 have f1014:=(f1012.tr0 f13').tr0 f14'
 refine var_ld (f1014.ob0 hoi) rfl fun _=>?_
 refine var_ld (f814.ob0 hoc) rfl fun _=>?_
 refine⟨fun _=>False,fun _ h=>h.elim,whole_ok (hli8.fr0 f814) (hxc8.fr0 f814) hei (by omega) (fun y hy=>by have:=hq80 y hy;omega) fun h15 f15'=>?_⟩
 have f815:=f814.tr0 f15'
 have f1215:=(f13'.tr0 f14').tr0 f15'
 simp only[pUn_not,zS,F4.n24,pPick_b,zE,if_false,F4.n23,aIf_b,zD,zC,zH]
 have ha15:=ha12.fr0 f1215
 have n810:=f810.next
 have n1012:=f1012.next
 have n1215:=f1215.next
 have n48:=f48.next
 have n412:=f412.next
 unfold F4.n21
 refine var_ld (f1215.ob0 hoa) rfl fun _=>?_
 refine⟨fun id=>h8.next<=id,fun id hid _=>.inr (by have hid:h8.next<=id:=hid;omega),spoil_ok ha15 (by omega) (fun y hy=>by have:=hsla.2 y hy;omega) (fun id hid _=>hid) fun h16 f16'=>?_⟩
 have f1216:Fr h12 h16 (RS xa ya):=(f1215.mono fun _ h=>h.elim).trans (f16'.mono fun _ h=>.inl h)
 have f816:Fr h8 h16 (fun _=>False):=f815.trans (f16'.mono fun id hs=>.inr (hrs id hs).1)
 have hb16:=hb12.keep f1216 hrs
 have no:∀{id:Nat}{cs:List AV},h12.obj id=some (mkO cs 3 24)->¬RS xa ya id:=fun ho hs=>by
  rcases hs with⟨n,e⟩ |⟨y,hy,n,e⟩
  ·rcases ha12.o with⟨e2,_⟩ |⟨j,e2,hj⟩
   ·rw[e2]at e;cases e
   ·rw[e2]at e;cases e;exact obj_ne ho hj (show(24:Nat)≠45 by decide) rfl
  ·rcases(ha12.qs y hy).1 with⟨e2,_⟩ |⟨j,e2,hj⟩
   ·rw[e2]at e;cases e
   ·rw[e2]at e;cases e;exact obj_ne ho hj (show(24:Nat)≠3 by decide) rfl
 have hob16:=f1216.obj hob (no hob)
 unfold F4.n20
 refine var_ld hob16 rfl fun _=>?_
 refine var_ld (f816.ob0 how) rfl fun _=>?_
 refine⟨fun _=>False,fun _ h=>h.elim,equal_ok hb16.ops (hxw8.fr0 f816) (hyb.trans hyw.symm) (by omega) (fun y hy=>by have:=hslb.2 y hy;omega) fun h17 f17'=>?_⟩
 have f817:=f816.tr0 f17'
 have hoi16:=f1216.obj (f1012.ob0 hoi) (no (f1012.ob0 hoi))
 simp only[pUn_not,zS]
 unfold F4.n19
 simp only[aIg_b,zT,zE,zD,zC,zH,zI,zF]
 refine var_ld (f17'.ob0 hoi16) rfl fun _=>?_
 refine var_ld (f817.ob0 hoc) rfl fun _=>?_
 refine⟨fun _=>False,fun _ h=>h.elim,whole_ok (hli8.fr0 f817) (hxc8.fr0 f817) hei (by omega) (fun y hy=>by have:=hq80 y hy;omega) fun h18 f18'=>?_⟩
 have f818:=f817.tr0 f18'
 have f1618:=f17'.tr0 f18'
 simp only[pUn_not,zS,F4.n18,pPick_b,zE,if_false,F4.n17,aIf_b,zD,zC,zH]
 simp only[F4.n15,pBin_neq,int_bne]
 rcases hcase with he |⟨hk,hSe⟩
 ·simp only[zK he,zT,F4.n14,aIf_b,zD,zF,zC,zI,F4.n13]
  exact hR h18
 subst hSe
 simp only[decide_true,zS,F4.n14,aIf_b,zD,zE,zC,zH]
 simp only at hyb
 obtain⟨hkb,hmb,hnb⟩:=runT_ck (zU _) hk hmo
 have hb18:=hb16.fr0 f1618
 have hob18:=f1618.ob0 hob16
 have hmyb:∀y∈yb,MOK y.1:=fun y hy=>hmb _ (by rw[<-hyb];exact List.mem_map_of_mem hy)
 have f018:=f48.tr0 f818
 unfold F4.n12
 refine var_ld hob18 rfl fun _=>?_
 refine⟨fun _=>False,fun _ h=>h.elim,optStep_ok hb18.ops (slL_shape hb18.o) (fun y hy=>by have:=hslb.2 y hy;omega) (fun h19 _ he=>absurd (check_iff.2 (by rw[hyb];exact hkb)) he) fun h19 xd yd f19 _ hd hyd=>?_⟩
 rw[hyb,hnb]at hyd ⊢
 have f019:=f018.tr0 f19
 simp only[pExt_tup,zA,zB,cellK_some]
 refine new_var (cs:=[I q,I b,xd]) (ones3 hd.o.toR.one.1) rfl rfl rfl (fun id hid=>.inr (zR f019.next hid)) fun vd h20 f20 hn20 hod=>?_
 have f020:=f019.tr0 f20
 have f1820:=f19.tr0 f20
 have hb20:=hb18.fr0 f1820
 unfold F4.n11
 refine var_ld (f1820.ob0 hob18) rfl fun _=>?_
 refine⟨fun _=>False,fun _ h=>h.elim,optRun_ok hb20.ops (slL_shape hb20.o) (fun y hy=>by have:=hslb.2 y hy;omega) hmyb (fun h21 _ he=>absurd (check_iff.2 (by rw[hyb];exact hkb)) he) fun h21 xg yg f21 _ hg hyg=>?_⟩
 rw[hyb,runT_none hnb]at hyg
 have f021:=f020.tr0 f21
 simp only[pExt_tup,zA,zB,cellK_some]
 refine new_var (cs:=[I q,I b,xg]) (ones3 hg.o.toR.one.1) rfl rfl rfl (fun id hid=>.inr (zR f021.next hid)) fun vg h22 f22 hn22 hog=>?_
 have f022:=f021.tr0 f22
 have f2022:=f21.tr0 f22
 have f1822:=f1820.tr0 f2022
 have hod22:=f2022.ob0 hod
 have hob22:=f1822.ob0 hob18
 have hd22:=(hd.fr0 f20).fr0 f2022
 have hb22:=hb18.fr0 f1822
 have hg22:=hg.fr0 f22
 have hsld:=hkb.sm.of hyd
 have hslg:=hkb.sm.of hyg
 have t00:((0:Int)==0)=true:=rfl
 simp only[F4.n10,pBin_eql,t00]
 simp only[F4.n9,aIg_b,zS,zF,zD,zC,zI,pBin_eql,t00,F4.n8,pPick_b,zV]
 simp only[F4.n7,aIg_b,zS,zF,zD,zC,zI,Option.isSome_none,pUn_not,zT,F4.n6,pPick_b,zV]
 unfold F4.n5
 simp only[aIg_b,zS,zF,zD,zC,zI]
 refine var_ld hod22 rfl fun _=>?_
 refine var_ld hob22 rfl fun _=>?_
 refine⟨fun _=>False,fun _ h=>h.elim,equal_ok hd22.ops hb22.ops (hyd.trans hyb.symm) (by omega) (fun y hy=>by have:=hsld.2 y hy;omega) fun h23 f23=>?_⟩
 simp only[F4.n4,pPick_b,zV]
 unfold F4.n3
 simp only[aIg_b,zS,zF,zD,zC,zI]
 refine var_ld (f23.ob0 hog) rfl fun _=>?_
 refine var_ld (f23.ob0 hob22) rfl fun _=>?_
 refine⟨fun _=>False,fun _ h=>h.elim,equal_ok (hg22.fr0 f23).ops (hb22.fr0 f23).ops (hyg.trans hyb.symm) (by omega) (fun y hy=>by have:=hslg.2 y hy;omega) fun h24 f24=>?_⟩
 simp only[F4.n2,pPick_b,zV,F4.n1]
 exact hR h24
end
end
end Go.Proofs.Ytbdibjgoeeokoaa
