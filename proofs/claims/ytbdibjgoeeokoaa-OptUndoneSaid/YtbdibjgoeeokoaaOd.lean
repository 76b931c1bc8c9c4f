/- What the law itself does with circuits. No condition. -/
import Derived.Test.YtbdibjgoeeokoaaOc
import Derived.Test.YtbdibjgoeeokoaaGw
set_option maxRecDepth 100000
namespace Go.Proofs.Ytbdibjgoeeokoaa
section
open Go.Ab
attribute [-simp] eAlloc_d eStore_f
def hop:COp:=⟨1,⟨#[104]⟩,[0],0,false,0,0⟩
theorem hop_run:runT [hop,hop]=[]:=List.length_eq_zero_iff.1 (by decide +kernel)
theorem hop_step:stepC [hop]=none:=by
 have:(stepC [hop]).isSome=false:=by decide +kernel
 cases h:stepC [hop] with
 |none=>rfl
 |some m=>rw[h]at this;cases this
theorem hop_c2:CK 1 0 [hop,hop]:=check_iff.1 (by decide +kernel)
theorem hop_c1:CK 1 0 [hop]:=check_iff.1 (by decide +kernel)
theorem hop_m:MOK hop:=by unfold MOK hop;decide
section
variable {h:AH} {M:Nat->Prop} {R:AE->AH->Prop} {x y:AV} {l m:List (COp×AV)} {q b:Int}
theorem awake_ok(hR:∀h',Fr h h' (fun _=>False)->R (.ret (B true)) h'):ACalls Try.prog 6 [] h M R:=by
 apply F6.callsN
 unfold F6.n16 F6.n15
 refine bsl_new (cells:=[I 0]) ⟨rfl,rfl⟩ fun z h1 f1 hz hoz=>?_
 have hq1:SlR encI 1 3 h1 (.sl z 0 1) [0]:=.inr (.inr ⟨z,[],false,3,rfl,fun _=>rfl,hoz⟩)
 refine⟨encO (hop,.sl z 0 1),rfl,?_⟩
 refine new_var (cs:=encO (hop,.sl z 0 1)) rfl rfl rfl rfl (fun id hid=>.inr (zR f1.next hid)) fun vh h2 f2 hn2 hoh=>?_
 have f12:=f1.tr0 f2
 unfold F6.n14
 refine var_ld hoh rfl fun _=>?_
 refine var_ld hoh rfl fun _=>?_
 refine bsl2 (f:=encO) (s:=(hop,.sl z 0 1)) (t:=(hop,.sl z 0 1)) encO_len (by decide) rfl rfl rfl fun h3 hs3 f3=>?_
 have f13:=f12.tr0 f3
 have hq3:=(hq1.fr0 f2).fr0 f3
 have hx3:OpsL h3 (.sl h2.next 0 2) [(hop,.sl z 0 1),(hop,.sl z 0 1)]:=⟨hs3.toR,fun y hy=>by
  simp only[List.mem_cons,List.not_mem_nil,or_false,or_self]at hy
  subst hy;exact hq3⟩
 refine⟨[I 1,I 0,.sl h2.next 0 2],rfl,?_⟩
 refine⟨fun _=>False,fun _ h=>h.elim,optRun_ok hx3 (.inr ⟨_,rfl⟩) (fun y hy=>?_) (fun y hy=>?_) (fun h4 f4 he=>?_) fun h4 xo yl f4 hk hn hy=>?_⟩
 ·simp only[List.mem_cons,List.not_mem_nil,or_false,or_self]at hy
  subst hy;simp[hop]
 ·simp only[List.mem_cons,List.not_mem_nil,or_false,or_self]at hy
  subst hy;exact hop_m
 ·exact absurd (check_iff.2 hop_c2) he
 have hy:yl.map (·.1)=[]:=hy.trans hop_run
 have hy:yl=[]:=List.map_eq_nil_iff.1 hy
 subst hy
 have f14:=f13.tr0 f4
 simp only[pExt_tup,zA,zB,cellK_some]
 refine new_var (cs:=[I 1,I 0,xo]) (by simp only[List.all_cons,hn.o.toR.one.1];rfl) rfl rfl rfl (fun id hid=>.inr (zR f14.next hid)) fun v2 h5 f5 hn5 ho2=>?_
 have f15:=f14.tr0 f5
 have hoh:=f5.ob0 (f4.ob0 (f3.ob0 hoh))
 have hxo:=slL_f0 hn.o f5
 unfold F6.n13
 refine var_ld hoh rfl fun _=>?_
 refine bsl_1 (cs:=encO (hop,.sl z 0 1)) rfl rfl rfl fun z2 h6 ho6 hz6 f6=>?_
 have f16:=f15.tr0 f6
 have hx6:OpsL h6 (.sl z2 0 1) [(hop,.sl z 0 1)]:=⟨.inr (.inr ⟨z2,[],false,45,rfl,fun _=>rfl,ho6⟩),fun y hy=>by
  simp only[List.mem_cons,List.not_mem_nil,or_false]at hy
  subst hy;exact((hq3.fr0 f4).fr0 f5).fr0 f6⟩
 refine⟨[I 1,I 0,.sl z2 0 1],rfl,?_⟩
 refine⟨fun _=>False,fun _ h=>h.elim,optStep_ok hx6 (.inr ⟨_,rfl⟩) (fun y hy=>?_) (fun h7 f7 he=>?_) fun h7 xp yp f7 hk2 hn2 hy2=>?_⟩
 ·simp only[List.mem_cons,List.not_mem_nil,or_false]at hy
  subst hy;simp[hop]
 ·exact absurd (check_iff.2 hop_c1) he
 have hs1:stepC ([(hop,AV.sl z 0 1)].map (·.1))=none:=hop_step
 rw[hs1]at hy2 ⊢
 have f17:=f16.tr0 f7
 have hl2:yp.length=1:=by simpa using congrArg List.length hy2
 simp only[pExt_tup,zA,zB,cellK_some]
 refine new_var (cs:=[I 1,I 0,xp]) (by simp only[List.all_cons,hn2.o.toR.one.1];rfl) rfl rfl rfl (fun id hid=>.inr (zR f17.next hid)) fun v4 h8 f8 hn8 ho4=>?_
 have ho2:=f8.ob0 (f7.ob0 (f6.ob0 ho2))
 have hxo:=slL_f0 (slL_f0 (slL_f0 hxo f6) f7) f8
 have hxp:=slL_f0 hn2.o f8
 have t00:((0:Int)==0)=true:=rfl
 have t11:((1:Int)==1)=true:=rfl
 have hR:=hR h8 (f17.tr0 f8)
 simp only[F6.n12,pBin_eql,t00]
 simp only[F6.n11,aIg_b,zS,zF,zD,zC,zI,pBin_eql,t00,F6.n10,pPick_b,zV]
 simp only[F6.n9,aIg_b,zS,zF,zD,zC,zI,Option.isSome_none,pUn_not,zT,F6.n8,pPick_b,zV]
 unfold F6.n7
 simp only[aIg_b,zS,zF,zD,zC,zI]
 refine var_fld ho2 rfl fun _=>?_
 simp only[hxo.toR.len.1,hxo.toR.len.2,zH,List.length_nil,pBin_eql,Int.natCast_zero,t00,F6.n6,pPick_b,zV]
 unfold F6.n5
 simp only[aIg_b,zS,zF,zD,zC,zI]
 refine var_fld ho2 rfl fun _=>?_
 simp only[pBin_eql,t11,F6.n4,pPick_b,zV]
 unfold F6.n3
 simp only[aIg_b,zS,zF,zD,zC,zI]
 refine var_fld ho4 rfl fun _=>?_
 simp only[hxp.toR.len.1,hxp.toR.len.2,zH,hl2,pBin_eql,Int.natCast_one,t11,F6.n2,pPick_b,zV,F6.n1]
 exact hR
theorem great_ok(hx:OpsL h x l)(hl:l.length<=9223372036854775807)(hT:∀h',Fr h h' (fun _=>False)->R (.ret (B true)) h')(hF:∀h',Fr h h' (fun _=>False)->l.length<=80->(∀y∈l,y.1.qubits.length<=80)->R (.ret (B false)) h'):ACalls Try.prog 7 [.agg [I q,I b,x]] h M R:=by
 apply F7.callsN
 unfold F7.n14
 refine box_var (cs:=[I q,I b,x]) (by simp only[List.all_cons,hx.tab.one.1];rfl) fun vc h1 f1 hn1 hoc=>?_
 unfold F7.n13
 refine var_fld hoc rfl fun _=>?_
 simp only[hx.tab.len.1,hx.tab.len.2,zH,pBin_gtr,gt_iff_lt]
 by_cases hv:(80:Int)<l.length
 ·simp only[zL hv,F7.n12,aIf_b,zD,zF,zC,zI,F7.n11]
  exact hT h1 f1
 simp only[zK hv,F7.n12,aIf_b,zD,zE,zC,zH]
 unfold F7.n10
 refine var_fld hoc rfl fun _=>?_
 simp only[hx.tab.len.1,hx.tab.len.2,zH]
 unfold F7.n9
 refine vLoop_of (ι:=Nat) (fun i v h'=>v=[x,I l.length,I i]/\i<=l.length/\Fr h h' (fun _=>False)/\∀y∈l.take i,y.1.qubits.length<=80) (fun i=>l.length-i) 0 ⟨rfl,by omega,f1,by simp⟩ ?_
 rintro K i v h2 ⟨rfl,hi,f2,hq⟩ hK
 have hx2:=hx.fr0 f2
 simp only[F7.g1_,zN,zO,F7.n8,pBin_lss]
 by_cases hlt:i<l.length
 ·have hli:(i:Int)<l.length:=by omega
  have w1:IntKind.i64.wrap ((i:Int)+1)=((i+1:Nat):Int):=by rw[wrap_in (by omega) (by omega)];simp
  have g1:l[i]?=some l[i]:=zJ hlt
  generalize l[i]=y at *
  have qy:=hx2.qs _ (zP g1)
  simp only[zL hli,F7.n7,aIf_b,zD,zF,zC,zI]
  unfold F7.n6
  refine rng_var hx2.tab encO_len (encO_one qy.one.1) g1 rfl rfl (fun id hid=>.inr (zR f2.next hid)) fun vo h3 f3 hn3 hoo=>?_
  have f23:=f2.tr0 f3
  unfold F7.n5
  refine var_fld hoo rfl fun _=>?_
  have qy3:=qy.fr0 f3
  simp only[qy3.len.1,qy3.len.2,zH,pBin_gtr,gt_iff_lt]
  by_cases hv2:(80:Int)<y.1.qubits.length
  ·simp only[zL hv2,F7.n4,aIf_b,zD,zF,zC,zI,F7.n3]
   exact hT h3 f23
  ·simp only[zK hv2,F7.n4,aIf_b,zD,zE,zC,zH,F7.n2,pBin_add,w1]
   refine hK (i+1) _ _ (by omega) ⟨rfl,by omega,f23,fun z hz=>?_⟩
   rw[List.take_add_one,g1]at hz
   rcases List.mem_append.1 hz with hz |hz
   ·exact hq z hz
   ·simp only[Option.toList,List.mem_singleton]at hz
    subst hz;omega
 ·have hnl:¬(i:Int)<l.length:=by omega
  rw[List.take_of_length_le (by omega)]at hq
  simp only[zK hnl,F7.n7,aIf_b,zD,zE,zC,zH,zV,F7.n1]
  exact hF h2 f2 (by omega) hq
end
end
section
open Go.Ab
attribute [-simp] eAlloc_d eStore_f
def RS(x:AV)(L:List (COp×AV))(id:Nat):Prop:=(∃n,x=.sl id 0 n)\/∃y∈L,∃n,y.2=.sl id 0 n
end
section
open Go.Ab
attribute [-simp] eAlloc_d eStore_f
def op77:COp:=⟨-77,⟨#[]⟩,[],0,false,0,0⟩
structure LN (n0:Nat) (h:AH) (x:AV) (L:List (COp×AV)):Prop where
 o:∃id,x=.sl id 0 L.length/\n0<=id/\h.obj id=some (mkO ((L++[(op77,nilS)]).flatMap encO) 7 45)
 qs:∀y∈L,∃id,y.2=.sl id 0 y.1.qubits.length/\n0<=id/\h.obj id=some (mkO ((y.1.qubits++[-77]).flatMap encI) 1 3)
theorem LN.fr0{n:Nat}{h h':AH}{x:AV}{L:List (COp×AV)}(a:LN n h x L)(f:Fr h h' fun _=>False):LN n h' x L:=by
 obtain⟨id,e1,e2,e3⟩:=a.o
 exact⟨⟨id,e1,e2,f.ob0 e3⟩,fun y hy=>by
  obtain⟨j,e4,e5,e6⟩:=a.qs y hy
  exact⟨j,e4,e5,f.ob0 e6⟩⟩
theorem LN.q{n:Nat}{h:AH}{x:AV}{L:List (COp×AV)}(a:LN n h x L){y:COp×AV}(hy:y∈L):SlR encI 1 3 h y.2 y.1.qubits:=by
 obtain⟨j,e4,e5,e6⟩:=a.qs y hy
 exact .inr (.inr ⟨j,[-77].flatMap encI,false,3,e4,fun _=>rfl,by rw[e6];simp[mkO]⟩)
theorem LN.ops{n:Nat}{h:AH}{x:AV}{L:List (COp×AV)}(a:LN n h x L):OpsL h x L:=by
 obtain⟨id,e1,e2,e3⟩:=a.o
 exact⟨.inr (.inr ⟨id,[(op77,nilS)].flatMap encO,false,45,e1,fun _=>rfl,by rw[e3];simp[mkO]⟩),fun y hy=>a.q hy⟩
end
section
open Go.Ab
attribute [-simp] eAlloc_d eStore_f
structure OutS where
 q:Int
 b:Int
 ops:List COp
 m:Bool
 e:Int
def outR(q b:Int)(ops:List COp):OutS:=if (checkP q b ops).2≠0 then⟨0,0,[],false,(checkP q b ops).2⟩ else⟨q,b,runT ops,false,0⟩
def SM(ops:List COp):Prop:=ops.length<=10000/\∀o∈ops,o.qubits.length<=10000
theorem CK.sm{q b:Int}{ops:List COp}(h:CK q b ops):SM ops:=⟨by have:=h.n;omega,fun o ho=>by
 have:=((fault_iff.1 (h.f o ho)).wo (y:=(o,nilS))).1.1
 simp only at this
 omega⟩
theorem SM.of{l:List (COp×AV)}{ops:List COp}(h:SM ops)(e:l.map (·.1)=ops):l.length<=10000/\∀y∈l,y.1.qubits.length<=10000:=by
 subst e
 exact⟨by simpa using h.1,fun y hy=>h.2 _ (List.mem_map_of_mem hy)⟩
theorem FN.nil{n:Nat}{h:AH}:FN n h nilS []:=⟨.nil,(fun _ _ _ e=>nomatch e),(fun _ h=>by cases h),.nil⟩
theorem OpsL.nil{h:AH}:OpsL h nilS []:=⟨.inl ⟨rfl,rfl⟩,(fun _ h=>by cases h)⟩
section
variable {h:AH} {M:Nat->Prop} {R:AE->AH->Prop} {x:AV} {l:List (COp×AV)} {q b:Int}
theorem optRun_u(hx:OpsL h x l)(hs:slShape x l.length)(hql:∀y∈l,y.1.qubits.length<=9223372036854775807)(hm:∀y∈l,MOK y.1)
  (hR:∀h' xo yl,Fr h h' (fun _=>False)->FN h.next h' xo yl->yl.map (·.1)=(outR q b (l.map (·.1))).ops->R (.ret (.tup [.agg [I (outR q b (l.map (·.1))).q,I (outR q b (l.map (·.1))).b,xo],I (outR q b (l.map (·.1))).e])) h') :
  ACalls Try.prog 15 [.agg [I q,I b,x]] h M R:=by
 unfold outR at hR
 refine optRun_ok hx hs hql hm (fun h' f he=>?_) fun h' xo yl f hk hn hy=>?_
 ·rw[zX he]at hR
  exact hR h' nilS [] f FN.nil rfl
 ·rw[zW (by have:=check_iff.2 hk;omega)]at hR
  exact hR h' xo yl f hn hy
theorem ones3{x:AV}{q b:Int}(h:oneA x=true):([I q,I b,x]:List AV).all oneA=true:=by simp only[List.all_cons,h];rfl
theorem FN.keep{n1 n2:Nat}{h h':AH}{xa xb:AV}{ya yb:List (COp×AV)}(hb:FN n2 h xb yb)(f:Fr h h' (RS xa ya))(hs:∀id,RS xa ya id->n1<=id/\id<n2):FN n2 h' xb yb:=
 ⟨hb.o.of_fr f fun id e hr=>by have:=hb.n _ _ _ e;have:=(hs id hr).2;omega,hb.n,fun y hy=>⟨(hb.qs y hy).1.of_fr f fun id e hr=>by have:=(hb.qs y hy).2 _ _ _ e;have:=(hs id hr).2;omega,(hb.qs y hy).2⟩,hb.pw⟩
theorem FN.rs{n1 n2:Nat}{h:AH}{xa:AV}{ya:List (COp×AV)}(ha:FN n1 h xa ya)(hn:h.next<=n2):∀id,RS xa ya id->n1<=id/\id<n2:=fun id hs=>by
 rcases hs with⟨n,e⟩ |⟨y,hy,n,e⟩
 ·exact⟨ha.n _ _ _ e,Nat.lt_of_lt_of_le (ha.lt _ _ _ (.inl e)) hn⟩
 ·exact⟨(ha.qs y hy).2 _ _ _ e,Nat.lt_of_lt_of_le (ha.lt _ _ _ (.inr ⟨y,hy,e⟩)) hn⟩
end
end
section
open Go.Ab
attribute [-simp] eAlloc_d eStore_f
end
end Go.Proofs.Ytbdibjgoeeokoaa
