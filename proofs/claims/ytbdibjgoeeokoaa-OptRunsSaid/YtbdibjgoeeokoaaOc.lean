/- Copies; the document's rules; both Steps and both Runs. No condition. -/
import Derived.Test.YtbdibjgoeeokoaaOb
set_option maxRecDepth 100000
namespace Go.Proofs.Ytbdibjgoeeokoaa
section
open Go.Ab
attribute [-simp] eAlloc_d eStore_f
theorem isSl42:isSliceT Try.prog 42=true:=by kernel_rfl
section
variable {h:AH} {M:Nat->Prop} {R:AE->AH->Prop} {x:AV} {l:List Int}
theorem cloneI_ok(hx:SlR encI 1 3 h x l)(hne:l≠[])(hl:l.length<=1000)(hR:∀y h',Fr h h' (fun _=>False)->SlL encI 1 3 h' y l->InS (h.next<=·) y->R (.ret y) h'):ACalls Try.prog 44 [x] h M R:=by
 apply F44.callsN
 obtain⟨id,e⟩:∃id,x=.sl id 0 l.length:=by
  rcases hx with⟨_,rfl⟩ |⟨_,_,_,rfl⟩ |⟨id,rest,ro,ty',e,_,ho⟩
  ·exact absurd rfl hne
  ·exact absurd rfl hne
  ·exact⟨id,e⟩
 subst e
 unfold F44.n5 F44.n4
 simp only[pBin,isSl42,zH,F44.n3,aIf_b,zD,zE,zC]
 unfold F44.n1
 refine bsl_0 fun z h1 hz hn1 f1=>?_
 refine app_all hz (hx.fr0 f1) encI_len (by omega) (by decide) (.inr hn1) fun z2 h2 hz2 hor f2=>?_
 have f12:=fr_set f1 hn1 f2
 exact hR _ h2 f12 (.inr ⟨z2,rfl,hz2⟩) fun i off n e=>by
  cases e
  rcases hor with rfl |h3
  ·exact hn1
  ·exact zR f1.next h3
theorem isSl22:isSliceT Try.prog 22=true:=by kernel_rfl
theorem cloneO_ok{l:List (COp×AV)}(hx:SlR encO 7 45 h x l)(hc:x=nilS\/∃id,x=.sl id 0 l.length)(hl:l.length<=1000000)(hR:∀y h',Fr h h' (fun _=>False)->SlL encO 7 45 h' y l->InS (h.next<=·) y->R (.ret y) h'):ACalls Try.prog 43 [x] h M R:=by
 apply F43.callsN
 unfold F43.n5 F43.n4
 rcases hc with rfl |⟨id,rfl⟩
 ·have hl0:l=[]:=by
   rcases hx with⟨_,h2⟩ |⟨_,_,_,h2⟩ |⟨_,_,_,_,h2,_⟩
   ·exact h2
   ·exact h2
   ·cases h2
  subst hl0
  simp only[pBin,isSl22,zH,F43.n3,aIf_b,zD,zF,zC,zI,F43.n2]
  exact hR _ h Fr.refl .nil fun _ _ _ e=>nomatch e
 ·simp only[pBin,isSl22,zH,F43.n3,aIf_b,zD,zE,zC]
  unfold F43.n1
  refine bsl_0 fun z h1 hz hn1 f1=>?_
  refine app_all hz (hx.fr0 f1) encO_len (by omega) (by decide) (.inr hn1) fun z2 h2 hz2 hor f2=>?_
  have f12:=fr_set f1 hn1 f2
  exact hR _ h2 f12 (.inr ⟨z2,rfl,hz2⟩) fun i off n e=>by
   cases e
   rcases hor with rfl |h3
   ·exact hn1
   ·exact zR f1.next h3
end
end
section
def exchP(l:List Int)(i j:Nat):List Int:=(l.set i (l.getD j 0)).set j (l.getD i 0)
def goodR(n:ByteArray)(a b:List Int):Bool:=
 if n=⟨#[99,122]⟩\/n=⟨#[99,115]⟩\/n=⟨#[99,115,100,103]⟩\/n=⟨#[115,119,97,112]⟩\/n=⟨#[105,115,119,97,112]⟩\/n=⟨#[105,115,119,97,112,100,103]⟩\/n=⟨#[99,99,122]⟩ then true
 else if n=⟨#[99,99,120]⟩ then decide (a=b)||decide (exchP a 0 1=b) else if n=⟨#[99,115,119,97,112]⟩ then decide (a=b)||decide (exchP a 1 2=b) else decide (a=b)
theorem good_same{n:ByteArray}{a b:List Int}(hda:a.Nodup)(hdb:b.Nodup)(hs:∀q,q∈a↔q∈b)(h3:n=⟨#[99,99,120]⟩\/n=⟨#[99,115,119,97,112]⟩->a.length=3/\b.length=3):goodR n a b=goodO n a b:=by
 unfold goodR goodO
 split
 ·rfl
 split
 ·rename_i e
  obtain⟨l1,l2⟩:=h3 (.inl e)
  match a,l1 with
  |[a0,a1,a2],_=>
   match b,l2 with
   |[b0,b1,b2],_=>
    have q0:=hs a0;have q1:=hs a1;have q2:=hs a2
    simp at hda hdb q0 q1 q2
    rw[Bool.eq_iff_iff]
    simp[exchP]
    omega
 split
 ·rename_i e
  obtain⟨l1,l2⟩:=h3 (.inr e)
  match a,l1 with
  |[a0,a1,a2],_=>
   match b,l2 with
   |[b0,b1,b2],_=>
    have q0:=hs a0;have q1:=hs a1;have q2:=hs a2
    simp at hda hdb q0 q1 q2
    rw[Bool.eq_iff_iff]
    simp[exchP]
    omega
 ·rfl
end
section
open Go.Ab
attribute [-simp] eAlloc_d eStore_f
section
variable {h:AH} {M:Nat->Prop} {R:AE->AH->Prop} {x y:AV} {l m:List Int}
theorem refEqual_ok(hx:SlR encI 1 3 h x l)(hy:SlR encI 1 3 h y m)(hl:l.length<=9000000000000000000)(hR:R (.ret (B (decide (l=m)))) h):ACalls Try.prog 55 [x,y] h M R:=by
 apply F55.callsN
 unfold F55.n13 F55.n12
 simp only[hx.len.1,hx.len.2,hy.len.1,hy.len.2,zH,pBin_neq,nat_bne]
 by_cases e:l.length=m.length
 ·rw[zL e]
  simp only[F55.n11,aIf_b,zS,zE,zC,zD,zH,F55.n9]
  unfold F55.n8
  refine vLoop_of (ι:=Nat) (fun i v h'=>v=[x,y,I i]/\i<=l.length/\h'=h/\l.take i=m.take i) (fun i=>l.length-i) 0 ⟨rfl,by omega,rfl,rfl⟩ ?_
  rintro K i v h' ⟨rfl,hi,rfl,he⟩ hK
  simp only[F55.g1_,zN,zO,F55.n7,hx.len.1,hx.len.2,zH]
  by_cases hlt:i<l.length
  ·have hli:(i:Int)<l.length:=by omega
   have g1:l[i]?=some l[i]:=zJ hlt
   have g2:m[i]?=some (m[i]'(by omega)):=zJ (by omega)
   have w1:IntKind.i64.wrap ((i:Int)+1)=((i+1:Nat):Int):=by rw[wrap_in (by omega) (by omega)];simp
   simp only[pBin_lss,zL hli,F55.n6,aIf_b,zD,zF,zC,zI,F55.n5]
   refine rng_one hx encI_len g1 rfl fun _=>?_
   refine rng_one hy encI_len g2 rfl fun _=>?_
   rw[pBin_neq,int_bne]
   by_cases e2:l[i]=m[i]'(by omega)
   ·simp only[zL e2,zS,F55.n4,aIf_b,zD,zE,zC,zH,F55.n2,pBin_add,w1]
    refine hK (i+1) _ _ (by omega) ⟨rfl,by omega,rfl,?_⟩
    rw[List.take_add_one,List.take_add_one,he,g1,g2,e2]
   ·have hne:l≠m:=fun h=>e2 (by subst h;rfl)
    rw[zK hne]at hR
    simp only[zK e2,zT,F55.n4,aIf_b,zD,zF,zC,zI,F55.n3]
    simpa using hR
  ·have hnl:¬(i:Int)<l.length:=by omega
   have:l=m:=by
    rw[List.take_of_length_le (by omega),List.take_of_length_le (by omega)]at he
    exact he
   rw[zL this]at hR
   simp only[pBin_lss,zK hnl,F55.n6,aIf_b,zD,zE,zC,zH,zV,F55.n1]
   simpa using hR
 ·have hne:l≠m:=fun h=>e (by rw[h])
  rw[zK hne]at hR
  rw[zK e]
  simp only[F55.n11,aIf_b,zT,zF,zD,zC,zI,F55.n10]
  simpa using hR
end
end
section
open Go.Ab
attribute [-simp] eAlloc_d eStore_f
def turnL:List ByteArray:=[⟨#[]⟩,⟨#[116]⟩,⟨#[115]⟩,⟨#[]⟩,⟨#[122]⟩,⟨#[]⟩,⟨#[115,100,103]⟩,⟨#[116,100,103]⟩]
theorem turnL_at{k:Nat}(hk:k<8):turnL[k]?=some (turningT k):=by
 have:k=0\/k=1\/k=2\/k=3\/k=4\/k=5\/k=6\/k=7:=by omega
 rcases this with rfl |rfl |rfl |rfl |rfl |rfl |rfl |rfl<;>rfl
section
variable {h:AH} {M:Nat->Prop} {R:AE->AH->Prop}
theorem refTurning_ok{k:Nat}(hk:k<8)(hR:∀h',Fr h h' (fun _=>False)->R (.ret (.tup [Sb (turningT k),B ((k:Int)==0||!decide (turningT k=⟨#[]⟩))])) h'):ACalls Try.prog 37 [I k] h M R:=by
 apply F37.callsN
 unfold F37.n6 F37.n5
 refine bsl_new (cells:=turnL.map Sb) ⟨rfl,rfl⟩ fun z h1 f1 hz hoz=>?_
 have hs:SlR encS 1 9 h1 (.sl z 0 8) turnL:=.inr (.inr ⟨z,[],false,9,rfl,fun _=>rfl,hoz⟩)
 have hR:=hR h1 f1
 unfold F37.n4
 refine rng_one hs encS_len (turnL_at hk) rfl fun _=>?_
 rw[pBin_eql]
 unfold F37.n3
 cases k0:((k:Int)==0) with
 |true=>
  rw[k0]at hR
  simp[F37.n2,F37.n1]
  exact hR
 |false=>
  rw[k0]at hR
  simp only[aIg_b,zT,eq_self,zD,zE,zF,zC,zH,zI]
  refine rng_one hs encS_len (turnL_at hk) rfl fun _=>?_
  rw[pBin_sneq]
  simp[F37.n2,F37.n1]
  simpa using hR
end
end
end Go.Proofs.Ytbdibjgoeeokoaa
namespace Go.Ab
attribute [-simp] eAlloc_d eStore_f
theorem AH.wid_obj{h:AH}{id p:Nat}{cs:List AV}{i:Nat}:(h.wid id p cs).obj i=if i=id then(h.obj i).map (fun o=>{ o with cells:=o.cells.take p++cs }) else h.obj i:=rfl
theorem Fr.wid{h h1:AH}{S:Nat->Prop}(a:Fr h h1 S){id p:Nat}{cs:List AV}(hs:S id\/h.next<=id):Fr h (h1.wid id p cs) S:=
 ⟨a.next,fun i hi hn=>by rw[AH.wid_obj,zW (fun e=>by subst e;exact hs.elim hn (fun h=>by omega))];exact a.keep i hi hn⟩
section
variable {α:Type} {f:α->List AV} {sz bytes:Nat} {ty ty2:TypeId} {h:AH} {W:Nat->Prop}
theorem SlR.news{v:AV}{m:List α}(hf:∀x,(f x).length=sz)(hm:SlR f sz ty h v m):news sz v h m.length (m.flatMap f):=by
 have hmm:(m.flatMap f).length=m.length*sz:=flat_len hf m
 rcases hm with⟨rfl,rfl⟩ |⟨_,_,rfl,rfl⟩ |⟨id,rest,ro,ty',rfl,_,ho⟩
 ·exact⟨rfl,rfl⟩
 ·exact⟨rfl,rfl⟩
 ·refine .inr ⟨rfl,_,ho,rfl,by simp[hmm],?_⟩
  simp only[List.drop_zero]
  rw[<-hmm,List.take_left]
theorem appR{K:AV->AH->Prop}{x v:AV}{l m:List α}(hf:∀x,(f x).length=sz)(hb:bytes<=1024)(hl:SlL f sz ty h x l)(hm:SlR f sz ty2 h v m)(hw:InS W x)(hn:l.length+m.length<=100100000)
  (hK:∀y h',SlL f sz ty h' y (l++m)->((y=x/\m=[])\/InS (h.next<=·) y)->Fr h h' (fun i=>∃off n,x=.sl i off n)->K y h'):eApp (some (sz,bytes,ty)) x v h W K:=by
 have hll:(l.flatMap f).length=l.length*sz:=flat_len hf l
 have hnb:(l.length+m.length)*bytes<=140737488355328:=by
  have:(l.length+m.length)*bytes<=100100000*1024:=Nat.mul_le_mul hn hb
  omega
 refine⟨m.length,m.flatMap f,hm.news hf,?_⟩
 rcases hl with⟨rfl,rfl⟩ |⟨id,rfl,ho⟩
 ·show if m.length=0 then _ else _
  by_cases h0:m.length=0
  ·rw[zX h0]
   have:m=[]:=List.length_eq_zero_iff.1 h0
   subst this
   exact hK nilS h .nil (.inl ⟨rfl,rfl⟩) Fr.refl
  ·rw[zW h0]
   refine⟨⟨by omega,by simpa using hnb⟩,?_⟩
   refine hK _ _ (.inr ⟨h.next,by simp,by rw[AH.alloc_new];simp[mkO]⟩) (.inr fun i of n e=>by cases e;exact zU _) (Fr.refl.alloc _)
 ·show if m.length=0 then _ else _
  by_cases h0:m.length=0
  ·rw[zX h0]
   have:m=[]:=List.length_eq_zero_iff.1 h0
   subst this
   exact hK _ h (.inr ⟨id,by simp,by simpa using ho⟩) (.inl ⟨rfl,rfl⟩) Fr.refl
  ·rw[zW h0]
   have hid:=h.lt _ _ ho
   refine .inl ⟨rfl,_,⟨hw _ _ _ rfl,ho,rfl,rfl,rfl,rfl,by simp[mkO,hll],by omega,hnb⟩,?_⟩
   refine hK _ _ (.inr ⟨h.next,by simp,?_⟩) (.inr fun i of n e=>by cases e;exact zU _) ?_
   ·rw[AH.alloc_obj,zX (by simp[AH.del_next])]
    simp only[mkO]
    rw[List.take_of_length_le (by omega),List.flatMap_append]
   ·refine⟨by simp only[AH.alloc_next,AH.del_next];omega,fun i hi hne=>?_⟩
    rw[AH.alloc_old (by simp only[AH.del_next];omega),AH.del_old fun e=>hne ⟨_,_,by rw[e]⟩]
theorem bsl2{z:List Value}(hf:∀x,(f x).length=sz)(hsz:0<sz)(hz:z.length=sz+sz){s t:α}(h1:(f s).all oneA=true)(h2:(f t).all oneA=true){K:AV->AH->Prop}
  (hK:∀h',SlL f sz ty h' (.sl h.next 0 2) [s,t]->Fr h h' (fun _=>False)->K (.sl h.next 0 2) h') :
  eBSl (some (sz,ty,z)) 2 [(0,.agg (f s)),(1,.agg (f t))] h K:=by
 have e1:putCells (z.map AV.sc) 0 (f s)=f s++(z.map AV.sc).drop sz:=by
  conv=>lhs;rw[<-List.take_append_drop sz (z.map AV.sc)]
  rw[putCells_0 _ _ _ (by rw[hf];simp;omega)]
 have e2:putCells (f s++(z.map AV.sc).drop sz) sz (f t)=f s++f t:=by
  have:=putCells_app (f s) (f t) ((z.map AV.sc).drop sz) 0
  rw[hf,Nat.add_zero]at this
  rw[this]
  have:=putCells_0 (f t) ((z.map AV.sc).drop sz) [] (by rw[hf];simp;omega)
  rw[List.append_nil,List.append_nil]at this
  rw[this]
 have hfill:aFill (fun i=>some (i*sz,sz)) (z.map .sc) [(0,.agg (f s)),(1,.agg (f t))]=some (f s++f t):=by
  simp only[aFill,avC_agg,Nat.zero_mul,Nat.one_mul,zG,hf,zH]
  rw[zX (by simp;omega),e1,zX (by simp[hf];omega),e2]
 refine⟨_,⟨hfill,by simp only[List.all_append,h1,h2,Bool.and_self]⟩,hK _ (.inr ⟨_,rfl,?_⟩) (Fr.refl.alloc _)⟩
 rw[AH.alloc_new];simp[mkO]
end
end Go.Ab
namespace Go.Proofs.Ytbdibjgoeeokoaa
section
open Go.Ab
attribute [-simp] eAlloc_d eStore_f
theorem pIxA_at{sz id len k:Nat}{K:AV->Prop}(h:k<len)(hK:K (.ptr id (k*sz))):pIxA (some (sz,none)) (.sl id 0 len) (I k) K:=by
 refine⟨⟨by omega,by omega⟩,?_⟩
 simpa using hK
theorem pSlL_up{K:AV->Prop}{h:AH}{id len u sz:Nat}{cells:List AV}{ty:TypeId}(ho:h.obj id=some (mkO cells sz ty))(hs:0<sz)(hu:u*sz<=cells.length)(hK:K (.sl id 0 u)) :
  pSlL (some sz) (.sl id 0 len) none (some (I u)) h K:=by
 refine⟨0,u,rfl,rfl,⟨Int.le_refl _,by omega,.inr ⟨_,ho,rfl,rfl,hs,.inr ?_⟩⟩,?_⟩
 ·simpa[mkO] using hu
 ·simpa using hK
end
section
open Go.Ab
attribute [-simp] eAlloc_d eStore_f
theorem ag45:aggOf Try.prog 45=some true:=by kernel_rfl
theorem sz45:szOf Try.prog 45=some 7:=by kernel_rfl
section
variable {h:AH} {M:Nat->Prop} {R:AE->AH->Prop} {xa:AV} {a:COp}
theorem refCopied_ok(ha:SlR encI 1 3 h xa a.qubits)(hl:a.qubits.length<=1000)
  (hR:∀y h',Fr h h' (fun _=>False)->SlL encI 1 3 h' y a.qubits->InS (h.next<=·) y->R (.ret (.agg (encO (a,y)))) h'):ACalls Try.prog 39 [.agg (encO (a,xa))] h M R:=by
 apply F39.callsN
 unfold F39.n5
 refine box_var (oneO ha) fun va h1 f1 hn1 hva=>?_
 simp only[eAlloc_d]
 refine⟨rfl,?_⟩
 have hvr:=AH.alloc_new h1 (mkO (([.int .i64 0,.string ⟨#[]⟩,.slice none 0 0,.int .i64 0,.bool false,.int .u64 0,.int .u64 0]:List Value).map AV.sc) 7 45)
 have f2:Fr h1 (h1.alloc (mkO (([.int .i64 0,.string ⟨#[]⟩,.slice none 0 0,.int .i64 0,.bool false,.int .u64 0,.int .u64 0]:List Value).map AV.sc) 7 45)) (fun _=>False):=Fr.refl.alloc _
 have hva0:=hva
 have hva:=f2.ob0 hva
 have f12:=f1.tr0 f2
 unfold F39.n4 F39.n3
 refine var_fld hva rfl fun _=>?_
 refine appR encI_len (by decide) .nil (ha.fr0 f12) (fun _ _ _ e=>nomatch e) (by simp;omega) fun y h3 hy hor f3'=>?_
 have f3:=f3'.mono (S':=fun _=>False) fun i (hs:∃off n,nilS=.sl i off n)=>by obtain⟨_,_,e⟩:=hs;cases e
 have hva:=f3.ob0 hva
 have hvr3:=f3.ob0 hvr
 have f13:=f12.tr0 f3
 have hy:SlL encI 1 3 h3 y a.qubits:=by simpa using hy
 have hlt:=h1.lt
 unfold F39.n2
 refine var_st hva (by simp[encO]) hy.toR.one.1 hy.toR.one.2 (.inr hn1) fun h4 f4 ho4=>?_
 have hvr4:=f4.obj hvr3 (fun e=>by have:=h1.lt va _ (by assumption);omega)
 unfold F39.n1
 refine var_ld ho4 rfl fun _=>?_
 simp only[eStore_f,hvr4,avC_agg,stk_mk]
 have hs:(encO (a,xa)).set 2 y=encO (a,y):=rfl
 rw[hs]
 refine⟨⟨.inr f1.next,encO_one (y:=(a,y)) hy.toR.one.1,rfl,by simp⟩,?_⟩
 have h5:(h4.put h1.next 0 (encO (a,y))).obj h1.next=some (mkO (encO (a,y)) 7 45):=by rw[put_row hvr4];rfl
 have f5:Fr h4 (h4.put h1.next 0 (encO (a,y))) (·=h1.next):=Fr.refl.put (.inl rfl)
 have f14:=fr_set f13 hn1 f4
 have f15:=fr_set f14 f1.next f5
 have key:InS (h.next<=·) y:=fun i off n e=>by
  rcases hor with⟨e2,_⟩ |h6
  ·rw[e2]at e;cases e
  ·exact zR f12.next (h6 i off n e)
 have hyn:∀id,y=.sl id 0 a.qubits.length->id≠va/\id≠h1.next:=fun id e=>by
  rcases hor with⟨e2,_⟩ |h6
  ·rw[e2]at e;cases e
  ·have h7:=h6 _ _ _ e
   have h8:=f2.next
   have h9:=AH.lt' (h:=h1) (id:=va) (by rw[hva0];simp)
   simp only[AH.alloc]at h7
   omega
 have hy4:SlL encI 1 3 h4 y a.qubits:=hy.of_fr f4 fun id e=>(hyn id e).1
 have hy5:SlL encI 1 3 (h4.put h1.next 0 (encO (a,y))) y a.qubits:=hy4.of_fr f5 fun id e=>(hyn id e).2
 have fin:=hR y _ f15 hy5 key
 simp only[retV,aResV,ag45,sz45]
 exact var_ld h5 rfl fun _=>fin
end
end
section
open Go.Ab
attribute [-simp] eAlloc_d eStore_f
def Sep(x y:AV):Prop:=∀id off n off' n',x=.sl id off n->y≠.sl id off' n'
structure FN (n0:Nat) (h:AH) (xo:AV) (yl:List (COp×AV)):Prop where
 o:SlL encO 7 45 h xo yl
 n:InS (n0<=·) xo
 qs:∀y∈yl,SlL encI 1 3 h y.2 y.1.qubits/\InS (n0<=·) y.2
 pw:yl.Pairwise fun a b=>Sep a.2 b.2
theorem FN.fr0{n:Nat}{h h':AH}{xo:AV}{yl:List (COp×AV)}(a:FN n h xo yl)(f:Fr h h' fun _=>False):FN n h' xo yl:=
 ⟨a.o.of_fr f fun _ _ h=>h,a.n,fun y hy=>⟨(a.qs y hy).1.of_fr f fun _ _ h=>h,(a.qs y hy).2⟩,a.pw⟩
theorem FN.ops{n:Nat}{h:AH}{xo:AV}{yl:List (COp×AV)}(a:FN n h xo yl):OpsL h xo yl:=⟨a.o.toR,fun y hy=>(a.qs y hy).1.toR⟩
theorem FN.mono{n m:Nat}{h:AH}{xo:AV}{yl:List (COp×AV)}(a:FN n h xo yl)(hm:m<=n):FN m h xo yl:=
 ⟨a.o,fun id off n e=>zR hm (a.n id off n e),fun y hy=>⟨(a.qs y hy).1,fun id off n e=>zR hm ((a.qs y hy).2 id off n e)⟩,a.pw⟩
theorem slL_lt{α:Type}{f:α->List AV}{sz:Nat}{ty:TypeId}{h:AH}{x:AV}{l:List α}(s:SlL f sz ty h x l):∀i of m,x=.sl i of m->i<h.next:=fun i of m e=>by
 rcases s with⟨e2,_⟩ |⟨j,e2,hj⟩
 ·rw[e2]at e;cases e
 ·rw[e2]at e;cases e;exact h.lt _ _ hj
theorem FN.lt{n:Nat}{h:AH}{xo:AV}{yl:List (COp×AV)}(a:FN n h xo yl):∀i of m,(xo=.sl i of m\/∃y∈yl,y.2=.sl i of m)->i<h.next:=by
 rintro i of m (e |⟨y,hy,e⟩)
 ·exact slL_lt a.o _ _ _ e
 ·exact slL_lt (a.qs y hy).1 _ _ _ e
theorem var_fldI{sz:Nat}{ty:TypeId}{h:AH}{K:AV->Nat->Prop}{cs:List AV}{vn k:Nat}{v:AV}(ho:h.obj vn=some (mkO cs sz ty))(hv:cs[k]?=some v)(hK:K v vn):pFld (some k) (.ptr vn 0) fun t=>lLd (some false) (some 1) t h K:=by
 simp only[pFld_ptr,lLd_f,ho,ldk_mk,zG,hv];exact hK
section
variable {h:AH} {M:Nat->Prop} {R:AE->AH->Prop} {x y:AV} {l:List (COp×AV)} {q b:Int}
theorem ag24:aggOf Try.prog 24=some true:=by kernel_rfl
theorem sz24:szOf Try.prog 24=some 3:=by kernel_rfl
theorem copied_ok(hx:OpsL h y l)(hc:y=nilS\/∃id,y=.sl id 0 l.length)(h1x:oneA x=true)(hq:∀z∈l,z.1.qubits≠[]/\z.1.qubits.length<=1000)(hl:l.length<=1000000)
  (hR:∀xo yl h',Fr h h' (fun _=>False)->FN h.next h' xo yl->yl.map (·.1)=l.map (·.1)->R (.ret (.agg [I q,I b,xo])) h'):ACalls Try.prog 24 [.agg [I q,I b,x],y] h M R:=by
 apply F24.callsN
 unfold F24.n10
 refine box_var (cs:=[I q,I b,x]) (by simp only[List.all_cons,h1x];rfl) fun vc h1 f1 hn1 hoc=>?_
 simp only[eAlloc_d]
 refine⟨rfl,?_⟩
 have hor:=AH.alloc_new h1 (mkO (([.int .i64 0,.int .i64 0,.slice none 0 0]:List Value).map AV.sc) 3 24)
 have f2:Fr h1 (h1.alloc (mkO (([.int .i64 0,.int .i64 0,.slice none 0 0]:List Value).map AV.sc) 3 24)) (fun _=>False):=Fr.refl.alloc _
 have hcr:vc≠h1.next:=by have:=h1.lt _ _ hoc;omega
 have hvr:h.next<=h1.next:=f1.next
 generalize h1.alloc (mkO (([.int .i64 0,.int .i64 0,.slice none 0 0]:List Value).map AV.sc) 3 24)=h2 at *
 generalize h1.next=vr at *
 have hoc:=f2.ob0 hoc
 have f12:=f1.tr0 f2
 unfold F24.n9
 refine⟨fun _=>False,fun _ h=>h.elim,cloneO_ok ((hx.fr0 f12).tab) hc hl fun z h3 f3 hz hin=>?_⟩
 have hoc:=f3.ob0 hoc
 have hor:=f3.ob0 hor
 have f13:=f12.tr0 f3
 have hz1:=hz.toR.one
 refine var_st hoc (by simp) hz1.1 hz1.2 (.inr hn1) fun h4 f4 hoc=>?_
 have hor:=f4.obj hor (Ne.symm hcr)
 have hz4:SlL encO 7 45 h4 z l:=hz.of_fr f4 fun id e he=>by
  have:=hin _ _ _ e
  have h5:vc<h2.next:=h2.lt _ _ (by assumption)
  have he:id=vc:=he
  omega
 have f14:=fr_set f13 hn1 f4
 have hin4:InS (h.next<=·) z:=fun id off n e=>zR f12.next (hin _ _ _ e)
 rw[show([I q,I b,x]:List AV).set 2 z=[I q,I b,z] from rfl]at hoc
 unfold F24.n8
 refine var_fld hoc rfl fun _=>?_
 simp only[hz4.toR.len.1,hz4.toR.len.2,zH]
 unfold F24.n7
 clear hz hin hz1
 refine vLoop_of (ι:=Nat) (fun i v h'=>∃yl,v=[.ptr vc 0,.ptr vr 0,z,I l.length,I i]/\i<=l.length/\Fr h h' (fun _=>False)/\h'.obj vc=some (mkO [I q,I b,z] 3 24)/\h'.obj vr=some (mkO (([.int .i64 0,.int .i64 0,.slice none 0 0]:List Value).map AV.sc) 3 24) /\
  SlL encO 7 45 h' z (yl++l.drop i)/\yl.map (·.1)=(l.take i).map (·.1)/\(∀y∈yl,SlL encI 1 3 h' y.2 y.1.qubits/\InS (h.next<=·) y.2)/\yl.Pairwise fun a b=>Sep a.2 b.2) (fun i=>l.length-i) 0
  ⟨[],rfl,by omega,f14,hoc,hor,hz4,rfl,fun _ h=>(by cases h),.nil⟩ ?_
 rintro K i v h5 ⟨yl,rfl,hi,f5,hoc,hor,hzl,hyl,hys,hpw⟩ hK
 simp only[F24.g1_,zN,zO]
 have hyn:yl.length=i:=by
  have:=congrArg List.length hyl
  simp only[zZ,yA]at this;omega
 have hx5:=hx.fr0 f5
 by_cases hlt:i<l.length
 ·have hli:(i:Int)<l.length:=by omega
  have w1:IntKind.i64.wrap ((i:Int)+1)=((i+1:Nat):Int):=by rw[wrap_in (by omega) (by omega)];simp
  have g0:l[i]?=some l[i]:=zJ hlt
  have gd:=List.drop_eq_getElem_cons hlt
  generalize l[i]=o at *
  have hmo:=zP g0
  have qo:=hx5.qs _ hmo
  have g1:(yl++l.drop i)[i]?=some o:=by rw[List.getElem?_append_right (by omega),hyn,Nat.sub_self,List.getElem?_drop,Nat.add_zero];exact g0
  obtain⟨idz,rfl⟩:∃idz,z=.sl idz 0 l.length:=by
   obtain⟨idz,e⟩:=hzl.sl (List.ne_nil_of_length_pos (by simp;omega))
   refine⟨idz,e.trans ?_⟩
   congr 1
   simp only[List.length_append,List.length_drop];omega
  simp only[F24.n6,pBin_lss,zL hli,F24.n5,aIf_b,zD,zF,zC,zI]
  unfold F24.n4
  refine rng_var hzl.toR encO_len (encO_one qo.one.1) g1 rfl rfl (fun id hid=>.inr (zR f5.next hid)) fun vo h6 f6 hn6 hoo=>?_
  have hoc:=f6.ob0 hoc
  have hor:=f6.ob0 hor
  have f56:=f5.tr0 f6
  unfold F24.n3
  refine⟨fun _=>vc,fun _ _=>by rw[hoc];simp,?_⟩
  refine var_fldI hoc rfl ⟨rfl,?_⟩
  refine var_fld hoo rfl fun _=>?_
  refine⟨fun _=>False,fun _ h=>h.elim,cloneI_ok (qo.fr0 f6) (hq _ hmo).1 (hq _ hmo).2 fun w h7 f7 hw hwi=>?_⟩
  have hoc:=f7.ob0 hoc
  have hor:=f7.ob0 hor
  have f57:=f56.tr0 f7
  have hz7:SlL encO 7 45 h7 (.sl idz 0 l.length) (yl++l.drop i):=(hzl.of_fr f6 fun _ _ h=>h).of_fr f7 fun _ _ h=>h
  rcases hz7 with⟨e,_⟩ |⟨idz',e,hoz⟩
  ·cases e
  injection e with e _ _
  subst e
  refine pIxA_at hlt ?_
  rw[gd]at hoz
  have hone:=hw.toR.one
  simp only[pFld_ptr,eStore_f,hoz,hone.2,stk_mk]
  have hidz:h.next<=idz:=hin4 _ _ _ rfl
  have hfl:((yl++o::l.drop (i+1)).flatMap encO).length=l.length*7:=by rw[flat_len encO_len];simp;omega
  refine⟨⟨.inr hidz,by simp only[List.all_cons,hone.1];rfl,rfl,by rw[hfl];show i*7+2+1<=l.length*7;omega⟩,?_⟩
  have o2:=put_mk (off:=i*7+2) (cs:=[w]) hoz
  have f8:Fr h7 (h7.put idz (i*7+2) [w]) (·=idz):=Fr.refl.put (.inl rfl)
  have hpc:putCells ((yl++o::l.drop (i+1)).flatMap encO) (i*7+2) [w]=(yl++(o.1,w)::l.drop (i+1)).flatMap encO:=by
   have:=putCells_app (yl.flatMap encO) [w] (encO o++(l.drop (i+1)).flatMap encO) 2
   rw[flat_len encO_len,hyn]at this
   simp only[List.flatMap_append,List.flatMap_cons]
   rw[this];rfl
  rw[hpc]at o2
  generalize h7.put idz (i*7+2) [w]=h8 at *
  have hoc:=f8.obj hoc (obj_ne hoc hoz (show(24:Nat)≠45 by decide))
  have hor:=f8.obj hor (obj_ne hor hoz (show(24:Nat)≠45 by decide))
  have f58:=fr_set f57 hidz f8
  have nq:∀{cs:List AV}{id:Nat},h7.obj id=some (mkO cs 1 3)->id≠idz:=fun ho=>obj_ne ho hoz (show(3:Nat)≠45 by decide)
  have keepI:∀{x:AV}{l:List Int},SlL encI 1 3 h7 x l->SlL encI 1 3 h8 x l:=fun hs=>hs.of_fr f8 fun id e=>by
   rcases hs with⟨e2,_⟩ |⟨j,e2,hj⟩
   ·rw[e2]at e;cases e
   ·rw[e2]at e;cases e;exact nq hj
  simp only[F24.n2,pBin_add,w1]
  refine hK (i+1) _ _ (by omega) ⟨yl++[(o.1,w)],rfl,by omega,f58,hoc,hor,.inr ⟨idz,?_,?_⟩,?_,?_,?_⟩
  ·congr 1;simp;omega
  ·rw[List.append_assoc];exact o2
  ·rw[List.map_append,hyl,List.take_add_one,List.map_append,g0];rfl
  ·intro y hy
   rcases List.mem_append.1 hy with hy |hy
   ·exact⟨keepI (((hys y hy).1.of_fr f6 fun _ _ h=>h).of_fr f7 fun _ _ h=>h),(hys y hy).2⟩
   ·simp only[List.mem_singleton]at hy
    subst hy
    exact⟨keepI hw,fun id off n e=>zR f56.next (hwi id off n e)⟩
  ·rw[List.pairwise_append]
   refine⟨hpw,List.pairwise_singleton _ _,fun a ha b hb=>?_⟩
   simp only[List.mem_singleton]at hb
   subst hb
   intro id of n of' n' e1 e2
   have h1:=slL_lt (hys a ha).1 _ _ _ e1
   have h2:=hwi _ _ _ e2
   have h3:=f6.next
   omega
 ·have hnl:¬(i:Int)<l.length:=by omega
  have hil:i=l.length:=by omega
  rw[List.drop_of_length_le (by omega),List.append_nil]at hzl
  rw[hil,List.take_of_length_le (zU _)]at hyl
  simp only[F24.n6,pBin_lss,zK hnl,F24.n5,aIf_b,zD,zE,zC,zH,zV,zN,zO]
  unfold F24.n1
  refine var_ld hoc rfl fun _=>?_
  simp only[eStore_f,hor,avC_agg,stk_mk]
  refine⟨⟨.inr hvr,by simp only[List.all_cons,hzl.toR.one.1];rfl,rfl,by simp⟩,?_⟩
  have o6:(h5.put vr 0 [I q,I b,z]).obj vr=some (mkO [I q,I b,z] 3 24):=by rw[put_row hor];rfl
  have f6:Fr h5 (h5.put vr 0 [I q,I b,z]) (·=vr):=Fr.refl.put (.inl rfl)
  have f56:=fr_set f5 hvr f6
  have nr:∀{α:Type}{f:α->List AV}{sz:Nat}{ty:TypeId}{x:AV}{l:List α},ty≠24->SlL f sz ty h5 x l->SlL f sz ty (h5.put vr 0 [I q,I b,z]) x l:=fun ht hs=>hs.of_fr f6 fun id e=>by
   rcases hs with⟨e2,_⟩ |⟨j,e2,hj⟩
   ·rw[e2]at e;cases e
   ·rw[e2]at e;cases e;exact obj_ne hj hor ht
  have fin:=hR z yl _ f56 ⟨nr (by decide) hzl,hin4,fun y hy=>⟨nr (by decide) (hys y hy).1,(hys y hy).2⟩,hpw⟩ hyl
  simp only[retV,aResV,ag24,sz24]
  exact var_ld o6 rfl fun _=>fin
end
end
section
open Go.Ab
attribute [-simp] eAlloc_d eStore_f
theorem set_put{l:List Int}{i:Nat}{v:Int}(hi:i<l.length):putCells (l.flatMap encI) (i*1) [I v]=(l.set i v).flatMap encI:=by
 have e1:l=l.take i++l[i]::l.drop (i+1):=by rw[<-List.drop_eq_getElem_cons hi,List.take_append_drop]
 have e2:l.set i v=l.take i++v::l.drop (i+1):=by rw[List.set_eq_take_append_cons_drop,zX hi]
 have:=putCells_flat encI_len (l.take i) (l.drop (i+1)) l[i] v
 rw[<-e1,<-e2,yA,Nat.min_eq_left (by omega)]at this
 exact this
section
variable {h:AH} {M:Nat->Prop} {R:AE->AH->Prop} {x y:AV} {l m:List Int} {n:ByteArray}
theorem exchanged_ok{i j:Nat}(hx:SlR encI 1 3 h x l)(hl:l.length<=1000)(hi:i<l.length)(hj:j<l.length)
  (hR:∀y h',Fr h h' (fun _=>False)->SlL encI 1 3 h' y (exchP l i j)->R (.ret y) h'):ACalls Try.prog 56 [x,I i,I j] h M R:=by
 apply F56.callsN
 unfold F56.n5 F56.n4 F56.n3
 refine appR encI_len (by decide) .nil hx (fun _ _ _ e=>nomatch e) (by simp;omega) fun y h1 hy hor f1'=>?_
 have f1:=f1'.mono (S':=fun _=>False) fun i (hs:∃off n,nilS=.sl i off n)=>by obtain⟨_,_,e⟩:=hs;cases e
 have hy:SlL encI 1 3 h1 y l:=by simpa using hy
 obtain⟨id,rfl⟩:=hy.sl (List.ne_nil_of_length_pos (by omega))
 have hid:h.next<=id:=by
  rcases hor with⟨e,_⟩ |hin
  ·cases e
  ·exact hin _ _ _ rfl
 have ho:h1.obj id=some (mkO (l.flatMap encI) 1 3):=by
  rcases hy with⟨e,_⟩ |⟨id2,e,ho⟩
  ·cases e
  ·cases e;exact ho
 unfold F56.n2
 have gi:l[i]?=some l[i]:=zJ hi
 have gj:l[j]?=some l[j]:=zJ hj
 refine rng_one hy.toR encI_len gj rfl fun _=>?_
 refine rng_one hy.toR encI_len gi rfl fun _=>?_
 refine pIxA_at hi ?_
 simp only[eStore_f,ho,avC_int,stk_mk]
 refine⟨⟨.inr hid,rfl,rfl,by rw[flat_len encI_len];show i*1+1<=_;omega⟩,?_⟩
 have o2:=put_mk (off:=i*1) (cs:=[I l[j]]) ho
 have f2:Fr h1 (h1.put id (i*1) [I l[j]]) (·=id):=Fr.refl.put (.inl rfl)
 rw[set_put hi]at o2
 generalize h1.put id (i*1) [I l[j]]=h2 at *
 refine pIxA_at hj ?_
 simp only[eStore_f,o2,avC_int,stk_mk]
 refine⟨⟨.inr hid,rfl,rfl,by rw[flat_len encI_len,List.length_set];show j*1+1<=_;omega⟩,?_⟩
 have o3:=put_mk (off:=j*1) (cs:=[I l[i]]) o2
 have f3:Fr h2 (h2.put id (j*1) [I l[i]]) (·=id):=Fr.refl.put (.inl rfl)
 rw[set_put (by rw[List.length_set];exact hj)]at o3
 have he:exchP l i j=(l.set i l[j]).set j l[i]:=by
  unfold exchP
  rw[List.getD_eq_getElem?_getD,List.getD_eq_getElem?_getD,gi,gj];rfl
 simp only[F56.n1]
 refine hR _ _ (fr_set (fr_set f1 hid f2) hid f3) (.inr ⟨id,by rw[he];simp,?_⟩)
 rw[he];exact o3
theorem refGood_ok(hx:SlR encI 1 3 h x l)(hy:SlR encI 1 3 h y m)(hl:l.length<=1000)(h3:n=⟨#[99,99,120]⟩\/n=⟨#[99,115,119,97,112]⟩->l.length=3)
  (hR:∀h',Fr h h' (fun _=>False)->R (.ret (B (goodR n l m))) h'):ACalls Try.prog 36 [Sb n,x,y] h M R:=by
 apply F36.callsN
 unfold goodR at hR
 by_cases k0:n=⟨#[99,122]⟩
 ·simpa[k0] using hR h Fr.refl
 by_cases k1:n=⟨#[99,115]⟩
 ·simpa[k1] using hR h Fr.refl
 by_cases k2:n=⟨#[99,115,100,103]⟩
 ·simpa[k2] using hR h Fr.refl
 by_cases k3:n=⟨#[115,119,97,112]⟩
 ·simpa[k3] using hR h Fr.refl
 by_cases k4:n=⟨#[105,115,119,97,112]⟩
 ·simpa[k4] using hR h Fr.refl
 by_cases k5:n=⟨#[105,115,119,97,112,100,103]⟩
 ·simpa[k5] using hR h Fr.refl
 by_cases k6:n=⟨#[99,99,122]⟩
 ·simpa[k6] using hR h Fr.refl
 rw[zW (by simp[k0,k1,k2,k3,k4,k5,k6])]at hR
 have two:∀{i j:Nat},i<l.length->j<l.length->(∀h',Fr h h' (fun _=>False)->R (.ret (B (decide (l=m)||decide (exchP l i j=m)))) h') ->
   ∀{N:AV->AV->AH->Prop}{P:AV->AH->Prop},(∀b c h',R (.ret (B (b||c))) h'->N (B b) (B c) h')->(∀h',R (.ret (B true)) h'->N (B true) noA h') ->
   aCall Try.prog (fun id=>M id\/h.next<=id) 55 [x,y] h (fun t h'=>aIg false t (aCall Try.prog (fun id=>M id\/h.next<=id) 56 [x,I i,I j] h' (fun t4 h5=>aCall Try.prog (fun id=>M id\/h.next<=id) 55 [t4,y] h5 (fun t6 h7=>N t t6 h7) P) P) (N t noA h')) P:=by
  intro i j hi hj hR N P hN hN2
  refine⟨fun _=>False,fun _ h=>h.elim,refEqual_ok hx hy (by omega) ?_⟩
  by_cases e:l=m
  ·have:=hR h Fr.refl
   rw[zL e]at this ⊢
   simp only[aIg_b,zD,zF,zC,zH,zI,zS,zT,zE]
   exact hN2 _ (by simpa using this)
  ·rw[zK e]at hR ⊢
   simp only[aIg_b,zD,zF,zC,zH,zI,zS,zT,zE]
   refine⟨fun _=>False,fun _ h=>h.elim,exchanged_ok hx hl hi hj fun z h1 f1 hz=>?_⟩
   refine⟨fun _=>False,fun _ h=>h.elim,refEqual_ok hz.toR (hy.fr0 f1) (by unfold exchP;simp;omega) ?_⟩
   exact hN _ _ _ (hR h1 f1)
 by_cases k7:n=⟨#[99,99,120]⟩
 ·subst k7
  rw[zX rfl]at hR
  have l3:=h3 (.inl rfl)
  have:=two (i:=0) (j:=1) (by omega) (by omega) hR (N:=fun a b h'=>F36.n4 (fun id=>M id\/h.next<=id) (retV Try.prog [.tmp 6] R) (retV Try.prog [.tmp 6] R) (fun _ _ _=>False) (fun v h=>R (.pan v) h) a b h') (P:=fun v h=>R (.pan v) h)
   (fun b c h' hr=>by cases b<;>simpa using hr) (fun h' hr=>by simpa using hr)
  simp[-F36.n6]
  unfold F36.n6 F36.n5
  exact this
 rw[zW k7]at hR
 by_cases k8:n=⟨#[99,115,119,97,112]⟩
 ·subst k8
  rw[zX rfl]at hR
  have l3:=h3 (.inr rfl)
  have:=two (i:=1) (j:=2) (by omega) (by omega) hR (N:=fun a b h'=>F36.n8 (fun id=>M id\/h.next<=id) (retV Try.prog [.tmp 6] R) (retV Try.prog [.tmp 6] R) (fun _ _ _=>False) (fun v h=>R (.pan v) h) a b h') (P:=fun v h=>R (.pan v) h)
   (fun b c h' hr=>by cases b<;>simpa using hr) (fun h' hr=>by simpa using hr)
  simp[-F36.n10]
  unfold F36.n10 F36.n9
  exact this
 rw[zW k8]at hR
 simp[-F36.n1,k0,k1,k2,k3,k4,k5,k6,k7,k8]
 unfold F36.n1
 refine⟨fun _=>False,fun _ h=>h.elim,refEqual_ok hx hy (by omega) ?_⟩
 simpa using hR h Fr.refl
end
end
section
open Go.Ab
attribute [-simp] eAlloc_d eStore_f
def fitP(l:List (COp×AV))(r j:Nat):Option (List Int×ByteArray):=
 match l[j]? with
 |none=>none
 |some y=>if y.1.kind≠1 then none else
  match r with
  |0=>if y.1.name=⟨#[105]⟩ then some ([(j:Int)],⟨#[]⟩) else none
  |r+1=>match nbr l j y.1 with
   |none=>none
   |some k=>match l[k]? with
    |none=>none
    |some z=>match r with
     |0=>if z.1.name=backT y.1.name/\goodR y.1.name y.1.qubits z.1.qubits=true then some ([(j:Int),(k:Int)],⟨#[]⟩) else none
     |1=>if ((turnT y.1.name+turnT z.1.name)%8=0\/turningT ((turnT y.1.name+turnT z.1.name)%8)≠⟨#[]⟩)/\turnT y.1.name≠0/\turnT z.1.name≠0 then some ([(j:Int),(k:Int)],turningT ((turnT y.1.name+turnT z.1.name)%8)) else none
     |_=>match nbr l k z.1 with
      |none=>none
      |some m=>match l[m]? with
       |none=>none
       |some c=>if y.1.name=⟨#[104]⟩/\c.1.name=⟨#[104]⟩ then(if z.1.name=⟨#[120]⟩ then some ([(j:Int),(k:Int),(m:Int)],⟨#[122]⟩) else if z.1.name=⟨#[122]⟩ then some ([(j:Int),(k:Int),(m:Int)],⟨#[120]⟩) else none) else none
def FP(R:AE->AH->Prop)(res:Option (List Int×ByteArray))(h':AH):Prop:=
 match res with
 |none=>∀x n,R (.ret (.tup [x,Sb n,B false])) h'
 |some g=>∀x,SlR encI 1 3 h' x g.1->R (.ret (.tup [x,Sb g.2,B true])) h'
theorem nbr_kind{l:List (COp×AV)}{k:Nat}{a b:COp}(h:alikeB a b=true):nbr l k b=neighGo b ((l.map (·.1)).drop (k+1)) (k+1):=by
 have:b.kind=1:=by
  unfold alikeB sameB at h
  simp at h
  omega
 unfold nbr
 rw[zX this]
section
variable {h:AH} {M:Nat->Prop} {R:AE->AH->Prop} {x xa:AV} {l:List (COp×AV)} {a:COp} {r j:Nat} {q b:Int}
theorem refFits_ok(hx:OpsL h x l)(hq:∀y∈l,WO y)(ha1:∀y∈l,AO1 y)(hn:l.length<=1000000)(hj:l[j]?=some (a,xa))(hr:r<4)(hR:∀h',Fr h h' (fun _=>False)->FP R (fitP l r j) h'):ACalls Try.prog 20 [.agg [I q,I b,x],I ((r:Int)+1),I j] h M R:=by
 have hma:=zP hj
 have hjl:j<l.length:=(zM.1 hj).1
 obtain⟨⟨hla,_⟩,hda,hea⟩:(a.qubits.length<=1000/\0<=a.bit)/\a.qubits.Nodup/\a.qubits≠[]:=hq _ hma
 apply F20.callsN
 unfold F20.n46
 refine box_var (cs:=[I q,I b,x]) (by simp only[List.all_cons,hx.tab.one.1];rfl) fun vc h1 f1 hn1 hoc=>?_
 have hx1:=hx.fr0 f1
 unfold F20.n45
 refine var_fld hoc rfl fun _=>?_
 refine rng_var hx1.tab encO_len (oneO (hx1.qs _ hma)) hj rfl rfl (fun id hi=>.inr (zR f1.next hi)) fun va h2 f2 hn2 hoa=>?_
 have f12:=f1.tr0 f2
 have hoc:=f2.ob0 hoc
 have hx2:=hx.fr0 f12
 have hR0:=hR
 have hR:=hR h2 f12
 simp only[fitP,hj]at hR hR0
 unfold F20.n44
 refine var_fld hoa rfl fun _=>?_
 rw[pBin_neq,int_bne]
 by_cases ka:a.kind=1
 case neg=>
  rw[zX (by simpa using ka)]at hR
  simp only[zK ka,zT,F20.n43,aIf_b,zD,zF,zC,zI,F20.n42]
  exact hR _ _
 have kn:nbr l j a=neighGo a ((l.map (·.1)).drop (j+1)) (j+1):=by unfold nbr;rw[zX ka]
 rw[zW (by simpa using ka)]at hR
 simp only[ne_eq,ka,not_true_eq_false,if_false]at hR0
 simp only[zL ka,zS,F20.n43,aIf_b,zD,zE,zC,zH]
 unfold F20.n41
 rw[pBin_eql]
 match r,hr with
 |0,_=>
  simp only[show(((0:Nat):Int)+1==1)=true from rfl,F20.n40,aIf_b,zD,zF,zC,zI]
  unfold F20.n39
  refine var_fld hoa rfl fun _=>?_
  rw[pBin_seql]
  refine bsl_new (cells:=[I j]) ⟨rfl,rfl⟩ fun z h5 f5 hz hoz=>?_
  have hR:=hR0 h5 (f12.tr0 f5)
  by_cases e:a.name=⟨#[105]⟩
  ·simp only[zX e]at hR
   rw[zL e]
   exact hR _ (.inr (.inr ⟨z,[],false,3,rfl,fun _=>rfl,hoz⟩))
  ·simp only[zW e]at hR
   rw[zK e]
   exact hR _ _
 |r+1,hr=>
  have r1:((((r+1:Nat):Int)+1)==1)=false:=by simp;omega
  simp only[r1,F20.n40,aIf_b,zD,zE,zC,zH]
  unfold F20.n38
  refine var_ld hoc rfl fun _=>?_
  refine⟨fun _=>False,fun _ h=>h.elim,neighR_ok hx2 (fun y hy=>(hq y hy).1) hn hj fun h3 f3=>?_⟩
  have f13:=f12.tr0 f3
  have hx3:=hx.fr0 f13
  have hoc:=f3.ob0 hoc
  have hoa:=f3.ob0 hoa
  have hR:=hR0 h3 f13
  rw[<-kn]
  cases hk:nbr l j a with
  |none=>
   simp only[hk]at hR
   simp[F20.n37,F20.n36,F20.n35,oi]
   exact hR _ _
  |some k=>
   obtain⟨o,xo,hb,hal,hjk,_⟩:=nbr_in hk
   have hmb:=zP hb
   have hk0:¬(k:Int)<0:=by omega
   simp only[hk,hb]at hR hR0
   simp only[oi,F20.n37,pBin_lss,zK hk0,F20.n36,aIf_b,zD,zE,zC,zH]
   unfold F20.n34
   refine var_fld hoc rfl fun _=>?_
   refine rng_var hx3.tab encO_len (oneO (hx3.qs _ hmb)) hb rfl rfl (fun id hi=>.inr (zR f13.next hi)) fun vb h4 f4 hn4 hob=>?_
   have f14:=f13.tr0 f4
   have hx4:=hx.fr0 f14
   have hoc:=f4.ob0 hoc
   have hoa:=f4.ob0 hoa
   have hR:=hR0 h4 f14
   unfold F20.n33 F20.n32
   rw[pBin_eql]
   match r,hr with
   |0,_=>
    simp only[show((((0+1:Nat):Int)+1)==2)=true from rfl,F20.n31,aIf_b,zD,zF,zC,zI]
    unfold F20.n21
    refine var_fld hoa rfl fun _=>?_
    obtain⟨ar,ar0⟩:arityT a.name=a.qubits.length/\arityT a.name≠0:=ha1 _ hma ka
    refine⟨fun _=>False,fun _ h=>h.elim,refInverse_ok ar0 ?_⟩
    simp only[pExt_tup,zA,zB,cellK_some]
    unfold F20.n20
    refine bsl_new (cells:=[I j,I k]) ⟨rfl,rfl⟩ fun z h5 f5 hz hoz=>?_
    have f15:=f14.tr0 f5
    have hx5:=hx.fr0 f15
    have hoa:=f5.ob0 hoa
    have hob:=f5.ob0 hob
    refine var_fld hob rfl fun _=>?_
    rw[pBin_seql]
    by_cases e:o.name=backT a.name
    ·rw[zL e]
     unfold F20.n19
     simp only[aIg_b,zS,zD,zF,zC,zH,zI]
     refine var_fld hoa rfl fun _=>?_
     refine var_fld hoa rfl fun _=>?_
     refine var_fld hob rfl fun _=>?_
     refine⟨fun _=>False,fun _ h=>h.elim,refGood_ok (hx5.qs _ hma) (hx5.qs _ hmb) hla (fun hc=>?_) fun h6 f6=>?_⟩
     ·show a.qubits.length=3
      have hc:a.name=⟨#[99,99,120]⟩\/a.name=⟨#[99,115,119,97,112]⟩:=hc
      rcases hc with hc |hc<;>rw[hc]at ar
      ·rw[show arityT ⟨#[99,99,120]⟩=3 by decide +kernel]at ar;omega
      ·rw[show arityT ⟨#[99,115,119,97,112]⟩=3 by decide +kernel]at ar;omega
     have hR:=hR0 h6 (f15.tr0 f6)
     cases hg:goodR a.name a.qubits o.qubits with
     |true=>
      rw[zX ⟨e,hg⟩]at hR
      simp[F20.n18,F20.n17]
      exact hR _ (.inr (.inr ⟨z,[],false,3,rfl,fun _=>rfl,f6.ob0 hoz⟩))
     |false=>
      rw[zW (by rw[hg];simp)]at hR
      simp[F20.n18,F20.n17]
      exact hR _ _
    ·have hR:=hR0 h5 f15
     rw[zW (fun hc=>e hc.1)]at hR
     rw[zK e]
     simp[F20.n19,F20.n18,F20.n17]
     exact hR _ _
   |1,_=>
    simp only[show((((1+1:Nat):Int)+1)==2)=false from rfl,F20.n31,aIf_b,zD,zE,zC,zH]
    unfold F20.n30
    rw[pBin_eql]
    simp only[show((((1+1:Nat):Int)+1)==3)=true from rfl,F20.n29,aIf_b,zD,zF,zC,zI]
    unfold F20.n28
    refine⟨fun _=>vb,fun _ _=>by rw[hob];simp,?_⟩
    refine var_fld hoa rfl fun _=>?_
    refine var_fldI hob rfl ⟨rfl,?_⟩
    refine⟨fun _=>False,fun _ h=>h.elim,refTurn_ok ?_⟩
    refine⟨fun _=>False,fun _ h=>h.elim,refTurn_ok ?_⟩
    have ra:=turnT_in a.name
    have rb:=turnT_in o.name
    have w:IntKind.i64.wrap (turnT a.name+turnT o.name)=turnT a.name+turnT o.name:=wrap_in (by omega) (by omega)
    have tm:(turnT a.name+turnT o.name).tmod 8=(turnT a.name+turnT o.name)%8:=Int.tmod_eq_emod_of_nonneg (by omega)
    have e8:(8:Int)≠0:=by decide
    simp only[pBin_add,w,pBin,zH,tm,ne_eq,e8,not_false_eq_true]
    obtain⟨s,hs⟩:∃s:Nat,(turnT a.name+turnT o.name)%8=s:=⟨((turnT a.name+turnT o.name)%8).toNat,by omega⟩
    rw[hs]at hR0 ⊢
    refine⟨fun _=>False,fun _ h=>h.elim,refTurning_ok (by omega) fun h5 f5=>?_⟩
    simp only[pExt_tup,zA,zB,cellK_some]
    unfold F20.n27
    refine bsl_new (cells:=[I j,I k]) ⟨rfl,rfl⟩ fun z h6 f6 hz hoz=>?_
    have hoa:=f6.ob0 (f5.ob0 hoa)
    have hob:=f6.ob0 (f5.ob0 hob)
    have hR:=hR0 h6 ((f14.tr0 f5).tr0 f6)
    have fin:∀c:Bool,c=decide (((s:Int)=0\/turningT s≠⟨#[]⟩)/\turnT a.name≠0/\turnT o.name≠0)->retV Try.prog [.tmp 6,.tmp 7,.tmp 8] R [.sl z 0 2,Sb (turningT s),B c] h6:=fun c hc=>by
     cases c with
     |true=>
      rw[zX (of_decide_eq_true hc.symm)]at hR
      exact hR _ (.inr (.inr ⟨z,[],false,3,rfl,fun _=>rfl,hoz⟩))
     |false=>
      rw[zW (of_decide_eq_false hc.symm)]at hR
      exact hR _ _
    have f9:=fin _ rfl
    unfold F20.n26
    by_cases c1:(s:Int)=0\/turningT s≠⟨#[]⟩
    ·have c1':(((s:Int)==0)||!decide (turningT s=⟨#[]⟩))=true:=by simpa using c1
     simp only[c1',aIg_b,zS,zD,zF,zC,zH,zI]
     refine var_fld hoa rfl fun _=>?_
     refine⟨fun _=>False,fun _ h=>h.elim,refTurn_ok ?_⟩
     show pBin _ _ _ _ (I (turnT a.name)) (I 0) _
     rw[pBin_neq,int_bne]
     by_cases c2:turnT a.name=0
     ·simp[c1,c2]at f9
      simp[c2,F20.n25,F20.n24,F20.n23,F20.n22]
      exact f9
     ·simp only[zK c2,zT,F20.n25,pPick_b,zV]
      unfold F20.n24
      simp only[aIg_b,zS,zD,zF,zC,zH,zI]
      refine var_fld hob rfl fun _=>?_
      refine⟨fun _=>False,fun _ h=>h.elim,refTurn_ok ?_⟩
      show pBin _ _ _ _ (I (turnT o.name)) (I 0) _
      rw[pBin_neq,int_bne]
      by_cases c3:turnT o.name=0
      ·simp[c1,c2,c3]at f9
       simp[c3,F20.n23,F20.n22]
       exact f9
      ·rw[zL ⟨c1,c2,c3⟩]at f9
       simp[c3,F20.n23,F20.n22]
       simpa using f9
    ·have c1':(((s:Int)==0)||!decide (turningT s=⟨#[]⟩))=false:=by simpa using c1
     rw[zK (fun hc=>c1 hc.1)]at f9
     simp only[c1']
     simp[F20.n25,F20.n24,F20.n23,F20.n22]
     simpa using f9
   |2,_=>
    simp only[show((((2+1:Nat):Int)+1)==2)=false from rfl,F20.n31,aIf_b,zD,zE,zC,zH]
    unfold F20.n30
    rw[pBin_eql]
    simp only[show((((2+1:Nat):Int)+1)==3)=false from rfl,F20.n29,aIf_b,zD,zE,zC,zH]
    unfold F20.n16
    refine var_ld hoc rfl fun _=>?_
    refine⟨fun _=>False,fun _ h=>h.elim,neighR_ok hx4 (fun y hy=>(hq y hy).1) hn hb fun h5 f5=>?_⟩
    have f15:=f14.tr0 f5
    have hx5:=hx.fr0 f15
    have hoc:=f5.ob0 hoc
    have hoa:=f5.ob0 hoa
    have hob:=f5.ob0 hob
    have hR:=hR0 h5 f15
    rw[<-nbr_kind hal]
    cases hm:nbr l k o with
    |none=>
     simp only[hm]at hR
     simp[F20.n15,F20.n14,F20.n13,F20.n12,F20.n11,F20.n10,F20.n9,oi]
     exact hR _ _
    |some m=>
     obtain⟨c,xc,hc,hcl,hkm,_⟩:=nbr_in hm
     have hm0:¬(m:Int)<0:=by omega
     simp only[hm,hc]at hR hR0
     simp only[oi,F20.n15,pBin_lss,zK hm0]
     unfold F20.n14
     simp only[aIg_b,zT,zD,zF,zE,zC,zH,zI]
     refine var_fld hoa rfl fun _=>?_
     rw[pBin_sneq]
     by_cases e1:a.name=⟨#[104]⟩
     ·simp only[ne_eq,e1,not_true_eq_false,decide_false,decide_true,zS,F20.n13,pPick_b,if_false,zE]
      unfold F20.n12
      simp only[aIg_b,zT,zD,zF,zE,zC,zH,zI]
      refine var_fld hoc rfl fun _=>?_
      refine rng_fld hx5.tab encO_len hc (by decide) (v:=Sb c.name) rfl fun _=>?_
      rw[pBin_sneq]
      by_cases e2:c.name=⟨#[104]⟩
      ·simp only[ne_eq,e2,not_true_eq_false,decide_false,decide_true,zS,F20.n11,F20.n10,aIf_b,pPick_b,if_false,zE,zD,zC,zH]
       unfold F20.n8
       refine var_fld hob rfl fun _=>?_
       unfold F20.n7
       rw[pBin_seql]
       rw[zX ⟨e1,e2⟩]at hR
       simp only[zX (And.intro e1 e2)]at hR0
       by_cases e3:o.name=⟨#[120]⟩
       ·simp only[zL e3,F20.n6,aIf_b,zD,zF,zC,zI]
        unfold F20.n2
        refine bsl_new (cells:=[I j,I k,I m]) ⟨rfl,rfl⟩ fun z h6 f6 hz hoz=>?_
        have hR:=hR0 h6 (f15.tr0 f6)
        rw[zX e3]at hR
        exact hR _ (.inr (.inr ⟨z,[],false,3,rfl,fun _=>rfl,hoz⟩))
       ·simp only[zK e3,F20.n6,aIf_b,zD,zE,zC,zH]
        unfold F20.n5
        rw[pBin_seql]
        rw[zW e3]at hR
        simp only[zW e3]at hR0
        by_cases e4:o.name=⟨#[122]⟩
        ·simp only[zL e4,F20.n4,aIf_b,zD,zF,zC,zI]
         unfold F20.n3
         refine bsl_new (cells:=[I j,I k,I m]) ⟨rfl,rfl⟩ fun z h6 f6 hz hoz=>?_
         have hR:=hR0 h6 (f15.tr0 f6)
         rw[zX e4]at hR
         exact hR _ (.inr (.inr ⟨z,[],false,3,rfl,fun _=>rfl,hoz⟩))
        ·simp only[zK e4,F20.n4,aIf_b,zD,zE,zC,zH,F20.n1]
         rw[zW e4]at hR
         exact hR _ _
      ·rw[zW (fun hc=>e2 hc.2)]at hR
       simp[e2,F20.n11,F20.n10,F20.n9]
       exact hR _ _
     ·rw[zW (fun hc=>e1 hc.1)]at hR
      simp[e1,F20.n13,F20.n12,F20.n11,F20.n10,F20.n9]
      exact hR _ _
end
end
section
open Go.Ab
attribute [-simp] eAlloc_d eStore_f
theorem slL_ne{α:Type}{f:α->List AV}{sz sz':Nat}{ty ty':TypeId}{h h':AH}{x:AV}{l:List α}{v:Nat}{cs:List AV}(hs:SlL f sz ty h x l)(ho:h.obj v=some (mkO cs sz' ty'))(ht:ty≠ty')(hf:Fr h h' (·=v)):SlL f sz ty h' x l:=
 hs.of_fr hf fun id e=>by
  rcases hs with⟨e2,_⟩ |⟨j,e2,hj⟩
  ·rw[e2]at e;cases e
  ·rw[e2]at e;cases e;exact obj_ne hj ho ht
theorem slL_f0{α:Type}{f:α->List AV}{sz:Nat}{ty:TypeId}{h h':AH}{x:AV}{l:List α}(hs:SlL f sz ty h x l)(hf:Fr h h' fun _=>False):SlL f sz ty h' x l:=hs.of_fr hf fun _ _ h=>h
theorem idxN_shift{α:Type}[DecidableEq α]{x:α}:∀{l:List α}{i j:Nat},(idxN x l i).isSome=(idxN x l j).isSome
 |[],_,_=>rfl
 |a::l,i,j=>by
  simp only[idxN]
  split
  ·rfl
  ·exact idxN_shift
theorem memB_mem{α:Type}[DecidableEq α]{x:α}:∀{l:List α},memB x l=decide (x∈l)
 |[]=>by simp[memB,idxN]
 |a::l=>by
  have ih:=memB_mem (x:=x) (l:=l)
  unfold memB at ih ⊢
  simp only[idxN]
  split
  ·rename_i e;subst e;simp
  ·rename_i e
   rw[idxN_shift (j:=0),ih]
   simp only[List.mem_cons]
   by_cases h2:x∈l
   ·simp[h2]
   ·rw[zK h2,zK]
    rintro(h3 |h3)
    ·exact e (by rw[h3])
    ·exact h2 h3
theorem memB_tk{x:Int}{l:List Int}{k:Nat}{g:Int}(hg:l[k]?=some g):memB x (l.take (k+1))=(memB x (l.take k)||g==x):=by
 rw[memB_mem,memB_mem,List.take_add_one,hg]
 simp only[Option.toList,List.mem_append,List.mem_singleton]
 by_cases h1:x∈l.take k
 ·simp[h1]
 ·by_cases h2:x=g
  ·subst h2;simp
  ·have:¬g=x:=fun e=>h2 e.symm
   simp[h1,h2,this]
section
variable {h:AH} {M:Nat->Prop} {R:AE->AH->Prop} {x xg:AV} {l:List (COp×AV)} {gone:List Int} {nm:ByteArray} {q b:Int}
theorem refWithout_ok(hx:OpsL h x l)(hq:∀y∈l,WO y)(hg:SlR encI 1 3 h xg gone)(hne:gone=[]->nm=ByteArray.empty)(hgl:gone.length<=1000)(hn:l.length<=1000000)
  (hR:∀y L h',Fr h h' (fun _=>False)->OpsL h' y L->L.map (·.1)=(withG gone nm l 0).map (·.1)->R (.ret (.agg [I q,I b,y])) h'):ACalls Try.prog 21 [.agg [I q,I b,x],xg,Sb nm] h M R:=by
 apply F21.callsN
 unfold F21.n28
 refine box_var (cs:=[I q,I b,x]) (by simp only[List.all_cons,hx.tab.one.1];rfl) fun vc h1 f1 hn1 hoc=>?_
 simp only[eAlloc_d]
 refine⟨rfl,?_⟩
 have hor:=AH.alloc_new h1 (mkO (([.int .i64 0,.int .i64 0,.slice none 0 0]:List Value).map AV.sc) 3 24)
 have f2:Fr h1 (h1.alloc (mkO (([.int .i64 0,.int .i64 0,.slice none 0 0]:List Value).map AV.sc) 3 24)) (fun _=>False):=Fr.refl.alloc _
 have hcr:vc≠h1.next:=by have:=h1.lt _ _ hoc;omega
 have hvr:h.next<=h1.next:=f1.next
 generalize h1.alloc (mkO (([.int .i64 0,.int .i64 0,.slice none 0 0]:List Value).map AV.sc) 3 24)=h2 at *
 generalize h1.next=vr at *
 have hoc:=f2.ob0 hoc
 have f12:=f1.tr0 f2
 unfold F21.n27
 refine var_fld hoc rfl fun _=>?_
 refine var_fld hoc rfl fun _=>?_
 refine⟨[I q,I b,nilS],rfl,?_⟩
 refine new_var (cs:=[I q,I b,nilS]) rfl rfl rfl rfl (fun id hid=>.inr (zR f12.next hid)) fun vd h3 f3 hn3 hod=>?_
 have hoc:=f3.ob0 hoc
 have hor:=f3.ob0 hor
 have f13:=f12.tr0 f3
 have hvd:h.next<=vd:=zR f12.next hn3
 have hdr:vr≠vd:=by have:=h2.lt vr _ (by assumption);omega
 have hdc:vc≠vd:=by have:=h2.lt vc _ (by assumption);omega
 unfold F21.n26 F21.n25
 refine vLoop_of (ι:=Nat) (fun i v h'=>∃acc L,v=[xg,Sb nm,.ptr vc 0,.ptr vr 0,.ptr vd 0,I i]/\i<=l.length/\Fr h h' (fun _=>False)/\h'.obj vc=some (mkO [I q,I b,x] 3 24)/\h'.obj vd=some (mkO [I q,I b,acc] 3 24)/\h'.obj vr=some (mkO (([.int .i64 0,.int .i64 0,.slice none 0 0]:List Value).map AV.sc) 3 24) /\
  SlL encO 7 45 h' acc L/\InS (h.next<=·) acc/\(∀y∈L,SlL encI 1 3 h' y.2 y.1.qubits)/\L.length<=i/\L.map (·.1)++(withG gone nm (l.drop i) i).map (·.1)=(withG gone nm l 0).map (·.1)) (fun i=>l.length-i) 0
  ⟨nilS,[],rfl,by omega,f13,hoc,hod,hor,.nil,(fun _ _ _ e=>nomatch e),(fun _ h=>by cases h),by simp,rfl⟩ ?_
 rintro K i v h4 ⟨acc,L,rfl,hi,f4,hoc,hod,hor,hacc,hin,hqs,hL,he⟩ hK
 simp only[F21.g1_,zN,zO]
 have hx4:=hx.fr0 f4
 have hg4:=hg.fr0 f4
 unfold F21.n24
 refine var_fld hoc rfl fun _=>?_
 simp only[hx4.tab.len.1,hx4.tab.len.2,zH]
 by_cases hlt:i<l.length
 ·have hli:(i:Int)<l.length:=by omega
  have w1:IntKind.i64.wrap ((i:Int)+1)=((i+1:Nat):Int):=by rw[wrap_in (by omega) (by omega)];simp
  obtain⟨⟨o,xo⟩,g1⟩:∃y,l[i]?=some y:=⟨_,zJ hlt⟩
  have hmo:=zP g1
  have hql:o.qubits.length<=1000:=(hq _ hmo).1.1
  have gd:l.drop i=(o,xo)::l.drop (i+1):=by
   rw[List.drop_eq_getElem_cons hlt]
   congr 1
   exact(zM.1 g1).2
  rw[gd]at he
  simp only[withG,List.map_append]at he
  simp only[pBin_lss,zL hli,F21.n23,aIf_b,zD,zF,zC,zI]
  unfold F21.n22 F21.n21 F21.n20
  refine vLoop_of (ι:=Nat) (fun k v h'=>v=[xg,Sb nm,.ptr vc 0,.ptr vr 0,.ptr vd 0,I i,B (memB (i:Int) (gone.take k)),I k]/\k<=gone.length/\h'=h4) (fun k=>gone.length-k) 0 ⟨rfl,by omega,rfl⟩ ?_
  rintro K2 k v h' ⟨rfl,hk,rfl⟩ hK2
  simp only[F21.g2_,zN,zO,F21.n19,hg4.len.1,hg4.len.2,zH]
  by_cases hkl:k<gone.length
  ·have hlk:(k:Int)<gone.length:=by omega
   have w2:IntKind.i64.wrap ((k:Int)+1)=((k+1:Nat):Int):=by rw[wrap_in (by omega) (by omega)];simp
   have gk:gone[k]?=some gone[k]:=zJ hkl
   have mt:=memB_tk (x:=(i:Int)) gk
   simp only[pBin_lss,zL hlk,F21.n18,aIf_b,zD,zF,zC,zI]
   unfold F21.n17 F21.n16
   have nxt:F21.n14 (fun id=>M id\/h.next<=id) (retV Try.prog [.cell 6 24] R) K2 (fun(i:Nat) (vs:List AV) (h:AH)=>if i=2 then F21.n13 (fun id=>M id\/h.next<=id) (retV Try.prog [.cell 6 24] R) K2 (fun _ _ _=>False) (fun v h=>R (.pan v) h) (vs.getD 0 noA) (vs.getD 1 noA) (vs.getD 2 noA) (vs.getD 3 noA) (vs.getD 4 noA) (vs.getD 5 noA) (vs.getD 6 noA) h else False) (fun v h=>R (.pan v) h) xg (Sb nm) (.ptr vc 0) (.ptr vr 0) (.ptr vd 0) (I i) (B (memB (i:Int) (gone.take k)||gone[k]==(i:Int))) (I k) h':=by
    simp only[F21.n14,pBin_add,w2,<-mt]
    exact hK2 (k+1) _ _ (by omega) ⟨rfl,by omega,rfl⟩
   cases hm:memB (i:Int) (gone.take k) with
   |true=>
    rw[hm,Bool.true_or]at nxt
    simp only[aIg_b,zT,zS,zF,zC,zD,zH,zI,F21.n15,pPick_b,zV]
    exact nxt
   |false=>
    rw[hm,Bool.false_or]at nxt
    simp only[aIg_b,zT,zS,zE,zC,zD,zH,zI]
    refine rng_one hg4 encI_len gk rfl fun _=>?_
    simp only[pBin_eql,F21.n15,pPick_b,zE,if_false]
    exact nxt
  ·have hnl:¬(k:Int)<gone.length:=by omega
   rw[List.take_of_length_le (by omega)]
   simp only[pBin_lss,zK hnl,F21.n18,aIf_b,zD,zE,zC,zH,zV,zN,zO]
   unfold F21.n13
   simp only[pUn_not]
   have app:∀(o':COp)(xq:AV)(h5:AH)(c:List AV),Fr h h5 (fun _=>False)->h5.obj vc=some (mkO [I q,I b,x] 3 24)->h5.obj vd=some (mkO [I q,I b,acc] 3 24)->h5.obj vr=some (mkO (([.int .i64 0,.int .i64 0,.slice none 0 0]:List Value).map AV.sc) 3 24)->SlL encO 7 45 h5 acc L->(∀y∈L,SlL encI 1 3 h5 y.2 y.1.qubits)->SlL encI 1 3 h5 xq o'.qubits ->
     (wOne gone nm i (o,xo)).map (·.1)=[o']->∀(WW:Nat->Prop),(∀id,h.next<=id->WW id)->∀{Kf:AH->Prop},(∀h',(F21.n2 (fun id=>M id\/h.next<=id) (retV Try.prog [.cell 6 24] R) K (fun(i:Nat) (vs:List AV) (h':AH)=>if i=0 then F21.n1 (fun id=>M id\/h.next<=id) (retV Try.prog [.cell 6 24] R) (retV Try.prog [.cell 6 24] R) (fun _ _ _=>False) (fun v h=>R (.pan v) h) (vs.getD 0 noA) (vs.getD 1 noA) h' else False) (fun v h=>R (.pan v) h) xg (Sb nm) (.ptr vc 0) (.ptr vr 0) (.ptr vd 0) (I i) h')->Kf h') ->
     eBSl (some (7,45,[.int .i64 0,.string ⟨#[]⟩,.slice none 0 0,.int .i64 0,.bool false,.int .u64 0,.int .u64 0])) 1 [(0,.agg (encO (o',xq)))] h5 fun t10 h11=>eApp (some (7,80,45)) acc t10 h11 WW fun t12 h13=>pFld (some 2) (.ptr vd 0) fun t14=>eStore (some 1) t14 t12 h13 WW Kf:=fun o' xq h5 c f5 hoc hod hor ha hqs5 hqo hw WW hWW Kf hKf=>by
    rw[hw]at he
    refine app1t (f:=encO) (t:=(o',xq)) encO_len (by decide) rfl (by decide) (encO_one hqo.toR.one.1) ha (fun id off n e=>hWW _ (hin id off n e)) (by omega) fun y h6 hy hiy hfr hnx=>?_
    have f56:Fr h5 h6 (fun i=>∃off n,acc=.sl i off n):=⟨hnx,fun i hi hs=>hfr i hi fun off n e=>hs ⟨off,n,e⟩⟩
    have f6:Fr h h6 (fun _=>False):=f5.trans (f56.mono fun id ⟨off,n,e⟩=>.inr (hin id off n e))
    have no:∀{i:Nat}{cs:List AV}{sz:Nat}{ty:TypeId},ty≠45->h5.obj i=some (mkO cs sz ty)->¬ ∃off n,acc=.sl i off n:=fun{i cs sz ty} ht hi2 ⟨off,n,e⟩=>by
     rcases ha with⟨e2,_⟩ |⟨j,e2,hj⟩
     ·rw[e2]at e;cases e
     ·rw[e2]at e;cases e
      exact obj_ne hi2 hj ht rfl
    have hoc:=f56.obj hoc (no (by decide) hoc)
    have hod:=f56.obj hod (no (by decide) hod)
    have hor:=f56.obj hor (no (by decide) hor)
    have kq:∀{x:AV}{l:List Int},SlL encI 1 3 h5 x l->SlL encI 1 3 h6 x l:=fun hs=>hs.of_fr f56 fun id e=>by
     rcases hs with⟨e2,_⟩ |⟨j,e2,hj⟩
     ·rw[e2]at e;cases e
     ·rw[e2]at e;cases e;exact no (by decide) hj
    have hyo:=hy.toR.one
    refine var_st hod (by simp) hyo.1 hyo.2 (hWW _ hvd) fun h7 f7 hod=>hKf _ ?_
    have hoc:=f7.obj hoc hdc
    have hor:=f7.obj hor hdr
    have f07:=fr_set f6 hvd f7
    have hod6:=f56.obj (by assumption) (no (by decide) (by assumption:h5.obj vd=some (mkO [I q,I b,acc] 3 24)))
    simp only[F21.n2,pBin_add,w1]
    refine hK (i+1) _ _ (by omega) ⟨y,L++[(o',xq)],rfl,by omega,f07,hoc,hod,hor,slL_ne hy hod6 (by decide) f7,fun id off n e=>zR f5.next (hiy id off n e),fun z hz=>?_,by simp;omega,by rw[<-he];simp⟩
    rcases List.mem_append.1 hz with hz |hz
    ·exact slL_ne (kq (hqs5 z hz)) hod6 (by decide) f7
    ·simp only[List.mem_singleton]at hz
     subst hz
     exact slL_ne (kq hqo) hod6 (by decide) f7
   cases hm:memB (i:Int) gone with
   |false=>
    have hgo:((i:Int)==gone.getD 0 0&&!decide (nm=ByteArray.empty))=false:=by
     cases gone with
     |nil=>rw[hne rfl];simp
     |cons g gr=>
      rw[memB_mem]at hm
      have hm:=of_decide_eq_false hm
      have:¬(i:Int)=g:=fun e=>hm (by simp[e])
      simp[this]
    have hw:wOne gone nm i (o,xo)=[(o,xo)]:=by unfold wOne;rw[zW (by rw[hgo];simp),zW (by rw[hm];simp)]
    simp only[zT,F21.n12,aIf_b,zD,zF,zC,zI]
    unfold F21.n11
    refine⟨fun _=>vd,fun _ _=>by rw[hod];simp,?_⟩
    refine var_fldI hod rfl ⟨rfl,?_⟩
    refine var_fld hoc rfl fun _=>?_
    refine rng_at hx4.tab encO_len g1 fun _=>?_
    refine⟨fun _=>False,fun _ h=>h.elim,refCopied_ok (hx4.qs _ hmo) hql fun xq h5 f5 hxq hxi=>?_⟩
    refine app o xq h5 [] (f4.tr0 f5) (f5.ob0 hoc) (f5.ob0 hod) (f5.ob0 hor) (slL_f0 hacc f5) (fun y hy=>slL_f0 (hqs y hy) f5) hxq (by rw[hw];rfl) _ (fun id hid=>.inr hid) fun h' hn=>?_
    exact hn
   |true=>
    simp only[zS,F21.n12,aIf_b,zD,zE,zC,zH]
    obtain⟨g0,gr,rfl⟩:∃g gr,gone=g::gr:=by
     cases gone with
     |nil=>simp[memB,idxN]at hm
     |cons g gr=>exact⟨g,gr,rfl⟩
    unfold F21.n9
    have hg0:(g0::gr)[0]?=some g0:=rfl
    refine rng_one (i:=0) hg4 encI_len hg0 rfl fun _=>?_
    rw[pBin_eql]
    have fin:∀c:Bool,c=((i:Int)==g0&&!decide (nm=ByteArray.empty))->F21.n6 (fun id=>M id\/h.next<=id) (retV Try.prog [.cell 6 24] R) K (fun(i:Nat) (vs:List AV) (h':AH)=>if i=0 then F21.n1 (fun id=>M id\/h.next<=id) (retV Try.prog [.cell 6 24] R) (retV Try.prog [.cell 6 24] R) (fun _ _ _=>False) (fun v h=>R (.pan v) h) (vs.getD 0 noA) (vs.getD 1 noA) h' else False) (fun v h=>R (.pan v) h) xg (Sb nm) (.ptr vc 0) (.ptr vr 0) (.ptr vd 0) (I i) (B c) h':=fun c hc=>by
     cases c with
     |true=>
      have hw:wOne (g0::gr) nm i (o,xo)=[({ o with name:=nm },xo)]:=by unfold wOne;rw[zX (by simpa using hc.symm)]
      simp only[F21.n6,aIf_b,zD,zF,zC,zI]
      unfold F21.n5
      refine var_fld hoc rfl fun _=>?_
      refine rng_at hx4.tab encO_len g1 fun _=>?_
      refine⟨fun _=>False,fun _ h=>h.elim,refCopied_ok (hx4.qs _ hmo) hql fun xq h5 f5 hxq hxi=>?_⟩
      have f45:=f4.tr0 f5
      refine new_var (encO_one hxq.toR.one.1) rfl rfl rfl (fun id hid=>.inr (zR f45.next hid)) fun vo h6 f6 hn6 hoo=>?_
      have f46:=f45.tr0 f6
      have f56:=f5.tr0 f6
      unfold F21.n4
      refine var_st hoo (by simp[encO]) rfl rfl (.inr (zR f45.next hn6)) fun h7 f7 hoo2=>?_
      have f47:=fr_set f46 (zR f45.next hn6) f7
      unfold F21.n3
      have hod7:=f7.obj (f56.ob0 hod) (obj_ne (f56.ob0 hod) hoo (show(24:Nat)≠45 by decide))
      have hoc7:=f7.obj (f56.ob0 hoc) (obj_ne (f56.ob0 hoc) hoo (show(24:Nat)≠45 by decide))
      have hor7:=f7.obj (f56.ob0 hor) (obj_ne (f56.ob0 hor) hoo (show(24:Nat)≠45 by decide))
      have ha7:SlL encO 7 45 h7 acc L:=(slL_f0 hacc f56).of_fr f7 fun id e he2=>by
       have he2:id=vo:=he2
       have h1:=slL_lt hacc _ _ _ e
       have h2:=f5.next
       omega
      refine var_fld hod7 rfl fun _=>?_
      refine var_ld hoo2 rfl fun _=>?_
      refine app { o with name:=nm } xq h7 [] f47 hoc7 hod7 hor7 ha7 (fun y hy=>slL_ne (slL_f0 (hqs y hy) f56) hoo (by decide) f7) (slL_ne (slL_f0 hxq f6) hoo (by decide) f7) (by rw[hw];rfl) _ (fun id hid=>.inr hid) fun h' hn=>?_
      exact hn
     |false=>
      have hw:wOne (g0::gr) nm i (o,xo)=[]:=by unfold wOne;rw[zW (by simpa using hc.symm),zX hm]
      rw[hw]at he
      simp only[F21.n6,aIf_b,zD,zE,zC,zH,F21.n2,pBin_add,w1]
      exact hK (i+1) _ _ (by omega) ⟨acc,L,rfl,by omega,f4,hoc,hod,hor,hacc,hin,hqs,by omega,by rw[<-he];simp⟩
    have f9:=fin _ rfl
    have e0:(⟨#[]⟩:ByteArray)=ByteArray.empty:=rfl
    revert f9
    cases k1:((i:Int)==g0)<;>by_cases k2:nm=ByteArray.empty<;>intro f9 <;>
     simp[-F21.n6,k2]at f9<;>simp[-F21.n6,k2,e0]<;>exact f9
 ·have hnl:¬(i:Int)<l.length:=by omega
  rw[List.drop_of_length_le (by omega)]at he
  simp only[withG,List.map_nil,List.append_nil]at he
  simp only[pBin_lss,zK hnl,F21.n23,aIf_b,zD,zE,zC,zH,zV,zN,zO]
  unfold F21.n1
  refine var_ld hod rfl fun _=>?_
  simp only[eStore_f,hor,avC_agg,stk_mk]
  refine⟨⟨.inr hvr,by simp only[List.all_cons,hacc.toR.one.1];rfl,rfl,by simp⟩,?_⟩
  have o6:(h4.put vr 0 [I q,I b,acc]).obj vr=some (mkO [I q,I b,acc] 3 24):=by rw[put_row hor];rfl
  have f6:Fr h4 (h4.put vr 0 [I q,I b,acc]) (·=vr):=Fr.refl.put (.inl rfl)
  have fin:=hR acc L _ (fr_set f4 hvr f6) ⟨(slL_ne hacc hor (by decide) f6).toR,fun y hy=>(slL_ne (hqs y hy) hor (by decide) f6).toR⟩ he
  simp only[retV,aResV,ag24,sz24]
  exact var_ld o6 rfl fun _=>fin
end
end
section
open Go.Ab
def withC(gone:List Int)(nm:ByteArray):List COp->Nat->List COp
 |[],_=>[]
 |y::l,i=>(wOne gone nm i (y,nilS)).map (·.1)++withC gone nm l (i+1)
theorem withG_fst{gone:List Int}{nm:ByteArray}:∀{l:List (COp×AV)}{i:Nat},(withG gone nm l i).map (·.1)=withC gone nm (l.map (·.1)) i
 |[],_=>rfl
 |y::l,i=>by
  simp only[withG,List.map_append,List.map_cons,withC,withG_fst]
  congr 1
  unfold wOne
  split
  ·rfl
  split<;>rfl
def placeF(l:List (COp×AV))(r:Nat):Nat->Nat->Option (List Int×ByteArray)
 |0,_=>none
 |n+1,j=>match fitP l r j with
  |some g=>some g
  |none=>placeF l r n (j+1)
def ruleF(l:List (COp×AV)):Nat->Nat->Option (List Int×ByteArray)
 |0,_=>none
 |n+1,r=>match placeF l r l.length 0 with
  |some g=>some g
  |none=>ruleF l n (r+1)
def stepF(l:List (COp×AV)):Option (List Int×ByteArray):=ruleF l 4 0
theorem alike_mem{a b:COp}(h:alikeB a b=true):∀q,q∈a.qubits↔q∈b.qubits:=by
 simp only[alikeB,subB,yC,List.all_eq_true,decide_eq_true_eq]at h
 exact fun q=>⟨h.2.1 q,h.2.2 q⟩
theorem fit_rule{l:List (COp×AV)}{r j:Nat}(hr:r<4)(hq:∀y∈l,WO y)(ha1:∀y∈l,AO1 y):ruleP l r j=(fitP l r j).map fun g=>withG g.1 g.2 l 0:=by
 unfold ruleP fitP
 cases hj:l[j]? with
 |none=>rfl
 |some y=>
  have hmy:=zP hj
  have nk:¬y.1.kind=1->nbr l j y.1=none:=fun h=>by unfold nbr;rw[zW h]
  match r,hr with
  |0,_=>
   simp only[idleP]
   by_cases k:y.1.kind=1
   ·by_cases n:y.1.name=⟨#[105]⟩
    ·simp[k,n];rfl
    ·simp[k,n]
   ·simp[k]
  |1,_=>
   simp only[undoP]
   by_cases k:y.1.kind=1
   case neg=>simp[k,nk k]
   simp only[ne_eq,k,not_true_eq_false,if_false]
   cases hn:nbr l j y.1 with
   |none=>rfl
   |some m=>
    obtain⟨b,xb,hb,hal,_,_⟩:=nbr_in hn
    simp only[hb]
    have hmb:=zP hb
    have hgs:goodR y.1.name y.1.qubits b.qubits=goodO y.1.name y.1.qubits b.qubits:=by
     refine good_same (hq _ hmy).2.1 (hq _ hmb).2.1 (alike_mem hal) fun hc=>?_
     have e1:=alike_len (hq _ hmy).2.1 (hq _ hmb).2.1 hal
     obtain⟨e2,_⟩:=ha1 _ hmy k
     have e3:arityT y.1.name=3:=by rcases hc with hc |hc<;>rw[hc]<;>decide +kernel
     simp only at e1
     omega
    rw[hgs]
    by_cases c1:backT y.1.name=b.name
    ·by_cases c2:goodO y.1.name y.1.qubits b.qubits=true
     ·rw[zX ⟨c1,c2⟩,zX ⟨c1.symm,c2⟩];rfl
     ·rw[zW (fun h=>c2 h.2),zW (fun h=>c2 h.2)];rfl
    ·rw[zW (fun h=>c1 h.1),zW (fun h=>c1 h.1.symm)];rfl
  |2,_=>
   simp only[mergeP]
   by_cases k:y.1.kind=1
   case neg=>simp[k,nk k]
   simp only[ne_eq,k,not_true_eq_false,if_false]
   cases hn:nbr l j y.1 with
   |none=>rfl
   |some m=>
    obtain⟨b,xb,hb,hal,_,_⟩:=nbr_in hn
    simp only[hb]
    generalize (turnT y.1.name+turnT b.name)%8=s
    by_cases c1:turnT y.1.name=0
    ·simp[c1]
    by_cases c2:turnT b.name=0
    ·simp[c2]
    by_cases c3:turningT s=⟨#[]⟩
    ·by_cases c4:s=0
     ·simp[c1,c2,c3,c4]
     ·simp[c1,c2,c3,c4]
    ·simp[c1,c2,c3]
  |3,_=>
   simp only[flipP]
   by_cases k:y.1.kind=1
   case neg=>simp[k]
   simp only[ne_eq,k,not_true_eq_false,if_false,zH]
   by_cases c1:y.1.name=⟨#[104]⟩
   ·simp only[c1,zV,zH]
    cases hn:nbr l j y.1 with
    |none=>rfl
    |some m=>
     simp only[]
     cases hm:l[m]? with
     |none=>rfl
     |some z=>
      simp only[]
      cases hn2:nbr l m z.1 with
      |none=>rfl
      |some p=>
       simp only[]
       cases hp:l[p]? with
       |none=>rfl
       |some c=>
        simp only[]
        by_cases c2:c.1.name=⟨#[104]⟩
        ·by_cases c3:z.1.name=⟨#[120]⟩
         ·simp[c2,c3]
         ·by_cases c4:z.1.name=⟨#[122]⟩
          ·simp[c2,c4]
          ·simp[c2,c3,c4]
        ·simp[c2]
   ·simp only[c1,if_false,false_and]
    cases nbr l j y.1 with
    |none=>rfl
    |some m=>
     simp only[]
     cases l[m]? with
     |none=>rfl
     |some z=>
      simp only[]
      cases nbr l m z.1 with
      |none=>rfl
      |some p=>
       simp only[]
       cases l[p]?<;>rfl
theorem place_rule{l:List (COp×AV)}{r:Nat}(hr:r<4)(hq:∀y∈l,WO y)(ha1:∀y∈l,AO1 y):∀{n j:Nat},placeGo l r n j=(placeF l r n j).map fun g=>withG g.1 g.2 l 0
 |0,_=>rfl
 |n+1,j=>by
  simp only[placeGo,placeF]
  rw[fit_rule hr hq ha1]
  cases fitP l r j with
  |none=>exact place_rule hr hq ha1
  |some g=>rfl
theorem go_rule{l:List (COp×AV)}(hq:∀y∈l,WO y)(ha1:∀y∈l,AO1 y):∀{n r:Nat},n+r<=4->ruleGo l n r=(ruleF l n r).map fun g=>withG g.1 g.2 l 0
 |0,_,_=>rfl
 |n+1,r,h=>by
  simp only[ruleGo,ruleF]
  rw[place_rule (by omega) hq ha1]
  cases placeF l r l.length 0 with
  |none=>exact go_rule hq ha1 (by omega)
  |some g=>rfl
theorem step_F{l:List (COp×AV)}(hq:∀y∈l,WO y)(ha1:∀y∈l,AO1 y):stepP l=(stepF l).map fun g=>withG g.1 g.2 l 0:=go_rule hq ha1 (by omega)
theorem nbr_nat{l m:List (COp×AV)}(h:l.map (·.1)=m.map (·.1)){j:Nat}{a:COp}:nbr l j a=nbr m j a:=by unfold nbr;rw[h]
theorem get_nat{l m:List (COp×AV)}(h:l.map (·.1)=m.map (·.1))(j:Nat):(l[j]?=none/\m[j]?=none)\/∃o x y,l[j]?=some (o,x)/\m[j]?=some (o,y):=by
 have:=congrArg (·[j]?) h
 simp only[List.getElem?_map]at this
 cases h1:l[j]? with
 |none=>
  rw[h1]at this
  cases h2:m[j]? with
  |none=>exact .inl ⟨rfl,rfl⟩
  |some y=>rw[h2]at this;cases this
 |some y=>
  obtain⟨o,x⟩:=y
  rw[h1]at this
  cases h2:m[j]? with
  |none=>rw[h2]at this;cases this
  |some z=>
   obtain⟨p,w⟩:=z
   rw[h2]at this
   simp only[yB,zQ]at this
   subst this
   exact .inr ⟨o,x,w,rfl,rfl⟩
theorem fit_nat{l m:List (COp×AV)}(h:l.map (·.1)=m.map (·.1)){r j:Nat}:fitP l r j=fitP m r j:=by
 unfold fitP
 rcases get_nat h j with⟨e1,e2⟩ |⟨o,x,y,e1,e2⟩
 ·rw[e1,e2]
 rw[e1,e2]
 simp only[]
 split
 ·rfl
 match r with
 |0=>rfl
 |r+1=>
  simp only[]
  rw[nbr_nat h]
  cases nbr m j o with
  |none=>rfl
  |some k=>
   simp only[]
   rcases get_nat h k with⟨e3,e4⟩ |⟨o2,x2,y2,e3,e4⟩
   ·rw[e3,e4]
   rw[e3,e4]
   simp only[]
   match r with
   |0=>rfl
   |1=>rfl
   |r+2=>
    simp only[]
    rw[nbr_nat h]
    cases nbr m k o2 with
    |none=>rfl
    |some p=>
     simp only[]
     rcases get_nat h p with⟨e5,e6⟩ |⟨o3,x3,y3,e5,e6⟩
     ·rw[e5,e6]
     rw[e5,e6]
theorem place_nat{l m:List (COp×AV)}(h:l.map (·.1)=m.map (·.1)){r:Nat}:∀{n j:Nat},placeF l r n j=placeF m r n j
 |0,_=>rfl
 |n+1,j=>by simp only[placeF,fit_nat h,place_nat h]
theorem rule_nat{l m:List (COp×AV)}(h:l.map (·.1)=m.map (·.1)):∀{n r:Nat},ruleF l n r=ruleF m n r
 |0,_=>rfl
 |n+1,r=>by
  have hl:l.length=m.length:=by simpa using congrArg List.length h
  simp only[ruleF,hl,place_nat h,rule_nat h]
theorem step_nat{l m:List (COp×AV)}(h:l.map (·.1)=m.map (·.1)):stepF l=stepF m:=rule_nat h
abbrev bare(ops:List COp):List (COp×AV):=ops.map fun o=>(o,nilS)
theorem bare_fst{ops:List COp}:(bare ops).map (·.1)=ops:=by unfold bare;rw[List.map_map];exact List.map_id _
theorem step_bare{l:List (COp×AV)}:stepF l=stepF (bare (l.map (·.1))):=step_nat bare_fst.symm
def stepC(ops:List COp):Option (List COp):=(stepF (bare ops)).map fun g=>withC g.1 g.2 ops 0
def runC:Nat->List COp->List COp
 |0,l=>l
 |n+1,l=>match stepC l with
  |none=>l
  |some m=>runC n m
end
section
open Go.Ab
structure CK (q b:Int) (l:List COp):Prop where
 r:0<=q/\q<=64/\0<=b/\b<=64
 n:l.length<=4096
 f:∀o∈l,faultP q b o=0
 h:(l.map halvesP).sum<=36
theorem checkGo_iff{q b:Int}:∀{l:List COp}{i:Nat}{n:Int},n<=36->((checkGo q b l i n).2=0↔(∀o∈l,faultP q b o=0)/\n+(l.map halvesP).sum<=36)
 |[],_,_,h=>by simp[checkGo];omega
 |o::l,i,n,h=>by
  have hs:∀l:List COp,0<=(l.map halvesP).sum:=fun l=>by
   induction l with
   |nil=>simp
   |cons a l ih=>have:=halvesP_le a;simp only[List.map_cons,List.sum_cons];omega
  have h1:=hs l
  simp only[checkGo,List.map_cons,List.sum_cons,List.mem_cons,forall_eq_or_imp]
  split
  ·rename_i e
   exact⟨fun h=>absurd h e,fun h=>absurd h.1.1 e⟩
  ·rename_i e
   have e:faultP q b o=0:=by omega
   split
   ·constructor
    ·intro h;simp at h
    ·intro h;omega
   ·rw[checkGo_iff (by omega)]
    constructor
    ·exact fun h=>⟨⟨e,h.1⟩,by omega⟩
    ·exact fun h=>⟨h.1.2,by omega⟩
theorem check_iff{q b:Int}{l:List COp}:(checkP q b l).2=0↔CK q b l:=by
 unfold checkP
 split
 ·exact⟨fun h=>by simp at h,fun h=>by have:=h.r;omega⟩
 split
 ·exact⟨fun h=>by simp at h,fun h=>by have:=h.n;omega⟩
 rw[checkGo_iff (by omega)]
 exact⟨fun h=>⟨by omega,by omega,h.1,by omega⟩,fun h=>⟨h.f,by have:=h.h;omega⟩⟩
theorem arityT_le(n:ByteArray):0<=arityT n/\arityT n<=3:=by
 unfold arityT
 split
 ·rename_i x hx
  have h1:=List.mem_of_find?_eq_some hx
  have key:∀x∈gateTab,0<=x.2.1/\x.2.1<=3:=by decide +kernel
  exact key x h1
 ·omega
theorem dup_nodup{l:List Int}(h:dupB l=false):l.Nodup:=by
 unfold dupB at h
 rw[List.any_eq_false]at h
 rw[List.nodup_iff_pairwise_ne,List.pairwise_iff_getElem]
 intro i j hi hj hij e
 refine h j (List.mem_range.2 hj) ?_
 rw[List.getD_eq_getElem?_getD,zJ hj,memB_mem]
 simp only[Option.getD_some,decide_eq_true_eq]
 rw[List.mem_take_iff_getElem]
 exact⟨i,by omega,e⟩
structure NoFlt (q b:Int) (o:COp):Prop where
 bo:badOp b o=false
 bn:badName o=false
 k:o.kind=1->arityT o.name≠0
 n:(o.qubits.length:Int)=nqP o
 ob:outB q o.qubits=false
 m:o.kind=2->0<=o.bit/\o.bit<b
 d:dupB o.qubits=false
theorem fault_iff{q b:Int}{o:COp}:faultP q b o=0↔NoFlt q b o:=by
 unfold faultP
 constructor
 ·intro h
  split at h;· simp at h
  split at h;· simp at h
  split at h;· simp at h
  split at h;· simp at h
  split at h;· simp at h
  split at h;· simp at h
  split at h;· simp at h
  rename_i e1 e2 e3 e4 e5 e6 e7
  exact⟨by simpa using e1,by simpa using e2,fun hk=>by omega,by omega,by simpa using e5,fun hk=>by omega,by simpa using e7⟩
 ·rintro⟨e1,e2,e3,e4,e5,e6,e7⟩
  rw[zW (by simp[e1]),zW (by simp[e2]),zW (fun h=>e3 h.1 h.2),zW (by omega),zW (by simp[e5]),zW (fun h=>by have:=e6 h.1;omega),zW (by simp[e7])]
theorem NoFlt.wo{q b:Int}{y:COp×AV}(h:NoFlt q b y.1):WO y:=by
 have h1:=h.n
 have h2:=arityT_le y.1.name
 have h3:1<=y.1.qubits.length/\y.1.qubits.length<=3:=by
  unfold nqP at h1
  split at h1
  ·have:=h.k (by assumption);omega
  ·omega
 refine⟨⟨by omega,?_⟩,dup_nodup h.d,fun e=>by rw[e]at h3;simp at h3⟩
 have h4:=h.bn
 unfold badName at h4
 simp at h4
 by_cases k:y.1.kind=2
 ·exact(h.m k).1
 ·have:=h4.2 k;omega
theorem NoFlt.ao{q b:Int}{y:COp×AV}(h:NoFlt q b y.1):AO1 y:=fun k=>by
 have h1:=h.n
 unfold nqP at h1
 rw[zX k]at h1
 exact⟨h1.symm,h.k k⟩
theorem CK.f0{q b:Int}{l:List (COp×AV)}(h:CK q b (l.map (·.1))){y:COp×AV}(hy:y∈l):NoFlt q b y.1:=fault_iff.1 (h.f _ (List.mem_map_of_mem hy))
theorem CK.wo{q b:Int}{l:List (COp×AV)}(h:CK q b (l.map (·.1))):∀y∈l,WO y:=fun _ hy=>(h.f0 hy).wo
theorem CK.ao{q b:Int}{l:List (COp×AV)}(h:CK q b (l.map (·.1))):∀y∈l,AO1 y:=fun _ hy=>(h.f0 hy).ao
structure FitOK (l:List (COp×AV)) (g:List Int×ByteArray) (j:Nat):Prop where
 e:∃y rest,l[j]?=some y/\g.1=(j:Int)::rest/\rest.length<=2/\y.1.kind=1/\(g.2=⟨#[]⟩\/(arityT y.1.name=1/\arityT g.2=1/\halvesT g.2=0/\∃k:Nat,k<l.length/\k≠j/\(k:Int)∈rest))
theorem turn_arity{n:ByteArray}(h:turnT n≠0):arityT n=1:=by
 unfold turnT at h
 split at h;· rename_i e;rw[e];decide +kernel
 split at h;· rename_i e;rw[e];decide +kernel
 split at h;· rename_i e;rw[e];decide +kernel
 split at h;· rename_i e;rw[e];decide +kernel
 split at h;· rename_i e;rw[e];decide +kernel
 exact absurd rfl h
theorem turning_arity{k:Int}:turningT k=⟨#[]⟩\/(arityT (turningT k)=1/\halvesT (turningT k)=0):=by
 unfold turningT
 split;· right;decide +kernel
 split;· right;decide +kernel
 split;· right;decide +kernel
 split;· right;decide +kernel
 split;· right;decide +kernel
 left;rfl
theorem fit_ok{l:List (COp×AV)}{r j:Nat}{g:List Int×ByteArray}(h:fitP l r j=some g):FitOK l g j:=by
 unfold fitP at h
 cases hj:l[j]? with
 |none=>rw[hj]at h;cases h
 |some y=>
  rw[hj]at h
  simp only at h
  split at h
  ·cases h
  rename_i k
  have k:y.1.kind=1:=by simpa using k
  match r with
  |0=>
   simp only at h
   split at h
   ·cases h;exact⟨y,[],hj,rfl,by simp,k,.inl rfl⟩
   ·cases h
  |r+1=>
   simp only at h
   cases hn:nbr l j y.1 with
   |none=>rw[hn]at h;cases h
   |some m=>
    obtain⟨o,xo,hm,hal,hjm,_⟩:=nbr_in hn
    have hml:m<l.length:=(zM.1 hm).1
    rw[hn]at h
    simp only[hm]at h
    match r with
    |0=>
     simp only at h
     split at h
     ·cases h;exact⟨y,[(m:Int)],hj,rfl,by simp,k,.inl rfl⟩
     ·cases h
    |1=>
     simp only at h
     split at h
     ·rename_i hc
      cases h
      refine⟨y,[(m:Int)],hj,rfl,by simp,k,?_⟩
      rcases turning_arity (k:=(turnT y.1.name+turnT o.name)%8) with e |⟨e1,e2⟩
      ·exact .inl e
      ·exact .inr ⟨turn_arity hc.2.1,e1,e2,m,hml,by omega,by simp⟩
     ·cases h
    |r+2=>
     simp only at h
     cases hp:nbr l m o with
     |none=>rw[hp]at h;cases h
     |some p=>
      obtain⟨c,xc,hc,_,hmp,_⟩:=nbr_in hp
      rw[hp]at h
      simp only[hc]at h
      split at h
      ·rename_i e
       have ea:arityT y.1.name=1:=by rw[e.1];decide +kernel
       split at h
       ·cases h;exact⟨y,[(m:Int),(p:Int)],hj,rfl,by simp,k,.inr ⟨ea,show arityT ⟨#[122]⟩=1 by decide +kernel,show halvesT ⟨#[122]⟩=0 by decide +kernel,m,hml,by omega,by simp⟩⟩
       split at h
       ·cases h;exact⟨y,[(m:Int),(p:Int)],hj,rfl,by simp,k,.inr ⟨ea,show arityT ⟨#[120]⟩=1 by decide +kernel,show halvesT ⟨#[120]⟩=0 by decide +kernel,m,hml,by omega,by simp⟩⟩
       ·cases h
      ·cases h
theorem place_ok{l:List (COp×AV)}{r:Nat}{g:List Int×ByteArray}:∀{n j:Nat},placeF l r n j=some g->∃j,fitP l r j=some g
 |0,_,h=>by cases h
 |n+1,j,h=>by
  simp only[placeF]at h
  split at h
  ·rename_i e;cases h;exact⟨_,e⟩
  ·exact place_ok h
theorem rule_okF{l:List (COp×AV)}{g:List Int×ByteArray}:∀{n r:Nat},ruleF l n r=some g->∃r j,fitP l r j=some g
 |0,_,h=>by cases h
 |n+1,r,h=>by
  simp only[ruleF]at h
  split at h
  ·rename_i e;cases h
   obtain⟨j,hj⟩:=place_ok e
   exact⟨r,j,hj⟩
  ·exact rule_okF h
theorem step_okF{l:List (COp×AV)}{g:List Int×ByteArray}(h:stepF l=some g):∃j,FitOK l g j:=by
 obtain⟨r,j,hf⟩:=rule_okF h
 exact⟨j,fit_ok hf⟩
theorem withG_mem{gone:List Int}{nm:ByteArray}:∀{l:List (COp×AV)}{i:Nat}{z:COp×AV},z∈withG gone nm l i->∃k y,l[k]?=some y/\(z=y\/(((i+k:Nat):Int)=gone.getD 0 0/\nm≠ByteArray.empty/\z=({ y.1 with name:=nm },y.2)))
 |[],_,_,h=>by cases h
 |y::l,i,z,h=>by
  simp only[withG]at h
  rcases List.mem_append.1 h with h |h
  ·refine⟨0,y,rfl,?_⟩
   unfold wOne at h
   split at h
   ·rename_i e
    simp only[List.mem_singleton]at h
    simp at e
    exact .inr ⟨by simpa using e.1,e.2,h⟩
   split at h
   ·cases h
   ·simp only[List.mem_singleton]at h;exact .inl h
  ·obtain⟨k,y',h1,h2⟩:=withG_mem h
   exact⟨k+1,y',by simpa using h1,by rw[show i+(k+1)=i+1+k by omega];exact h2⟩
theorem wOne_len{gone:List Int}{nm:ByteArray}{i:Nat}{y:COp×AV}:(wOne gone nm i y).length<=1:=by
 unfold wOne
 split
 ·simp
 split<;>simp
theorem withG_len{gone:List Int}{nm:ByteArray}:∀{l:List (COp×AV)}{i:Nat},(withG gone nm l i).length<=l.length
 |[],_=>by simp[withG]
 |y::l,i=>by
  have:=withG_len (gone:=gone) (nm:=nm) (l:=l) (i:=i+1)
  have:=wOne_len (gone:=gone) (nm:=nm) (i:=i) (y:=y)
  simp only[withG,List.length_append,List.length_cons];omega
theorem withG_lt{gone:List Int}{nm:ByteArray}:∀{l:List (COp×AV)}{i k:Nat},k<l.length->((i+k:Nat):Int)∈gone->(((i+k:Nat):Int)≠gone.getD 0 0\/nm=ByteArray.empty)->(withG gone nm l i).length<l.length
 |[],_,_,h,_,_=>by simp at h
 |y::l,i,0,h,hm,hc=>by
  have:=withG_len (gone:=gone) (nm:=nm) (l:=l) (i:=i+1)
  have:wOne gone nm i y=[]:=by
   unfold wOne
   rw[zW,zX (by rw[memB_mem];simpa using hm)]
   simp only[Nat.add_zero]at hc
   simp only[yC,beq_iff_eq,Bool.not_eq_true',decide_eq_false_iff_not,not_and,Decidable.not_not]
   intro e
   rcases hc with hc |hc
   ·exact absurd e hc
   ·exact hc
  simp only[withG,List.length_append,List.length_cons,this,List.length_nil];omega
 |y::l,i,k+1,h,hm,hc=>by
  have e:i+(k+1)=i+1+k:=by omega
  rw[e]at hm hc
  have:=withG_lt (l:=l) (i:=i+1) (k:=k) (by simpa using h) hm hc
  have:=wOne_len (gone:=gone) (nm:=nm) (i:=i) (y:=y)
  simp only[withG,List.length_append,List.length_cons];omega
theorem withG_halves{gone:List Int}{nm:ByteArray}(h0:nm=ByteArray.empty\/halvesT nm=0):∀{l:List (COp×AV)}{i:Nat},(((withG gone nm l i).map (·.1)).map halvesP).sum<=((l.map (·.1)).map halvesP).sum
 |[],_=>by simp[withG]
 |y::l,i=>by
  have ih:=withG_halves (gone:=gone) h0 (l:=l) (i:=i+1)
  have hy:=halvesP_le y.1
  have:(((wOne gone nm i y).map (·.1)).map halvesP).sum<=halvesP y.1:=by
   unfold wOne
   split
   ·rename_i e
    have hn:nm≠ByteArray.empty:=by simp at e;exact e.2
    have:halvesP { y.1 with name:=nm }=0:=by
     unfold halvesP
     split
     ·rcases h0 with h0 |h0
      ·exact absurd h0 hn
      ·exact h0
     ·rfl
    simp[this];omega
   split
   ·simp;omega
   ·simp
  simp only[withG,List.map_append,List.sum_append,List.map_cons,List.sum_cons];omega
theorem step_ck{q b:Int}{l:List (COp×AV)}{g:List Int×ByteArray}(hk:CK q b (l.map (·.1)))(h:stepF l=some g) :
  CK q b ((withG g.1 g.2 l 0).map (·.1))/\(withG g.1 g.2 l 0).length<l.length/\g.1≠[]/\g.1.length<=1000/\((∀y∈l,MOK y.1)->∀y∈withG g.1 g.2 l 0,MOK y.1):=by
 obtain⟨j,y,rest,hj,e1,hr,k1,hc⟩:=step_okF h
 have hjl:j<l.length:=(zM.1 hj).1
 have hn:=withG_len (gone:=g.1) (nm:=g.2) (l:=l) (i:=0)
 have hll:=hk.n
 rw[zZ]at hll
 refine⟨⟨hk.r,by rw[zZ];omega,fun o ho=>?_,?_⟩,?_,by rw[e1];simp,by rw[e1];simp;omega,fun hm z hz=>?_⟩
 ·obtain⟨z,hz,rfl⟩:=List.mem_map.1 ho
  obtain⟨p,w,hp,e |⟨e,hne,e3⟩⟩:=withG_mem hz
  ·subst e;exact hk.f _ (List.mem_map_of_mem (zP hp))
  ·have hw:=hk.f0 (zP hp)
   rw[e1]at e
   simp only[zG,zN]at e
   have:p=j:=by omega
   subst this
   rw[hj]at hp;cases hp
   rcases hc with hc |⟨a1,a2,a3,_⟩
   ·exact absurd hc hne
   subst e3
   refine fault_iff.2 ⟨hw.bo,?_,fun _=>by simp only;omega,?_,hw.ob,hw.m,hw.d⟩
   ·have:=hw.bn
    unfold badName at this ⊢
    simp[k1]at this ⊢
    exact this
   ·have:=hw.n
    unfold nqP at this ⊢
    simp only[k1,zV]at this ⊢
    omega
 ·have:=withG_halves (gone:=g.1) (nm:=g.2) (l:=l) (i:=0) (hc.imp id fun hc=>hc.2.2.1)
  have:=hk.h
  omega
 ·rcases hc with hc |⟨_,_,_,m,hm,hmj,hmr⟩
  ·exact withG_lt (k:=j) hjl (by rw[e1];simp) (.inr hc)
  ·refine withG_lt (k:=m) hm (by rw[e1,zG];exact List.mem_cons_of_mem _ hmr) (.inl ?_)
   rw[e1];simp;omega
 ·obtain⟨p,w,hp,e |⟨e,hne,e3⟩⟩:=withG_mem hz
  ·subst e;exact hm _ (zP hp)
  ·subst e3
   have:=hm _ (zP hp)
   exact this
end
section
open Go.Ab
attribute [-simp] eAlloc_d eStore_f
theorem step_lt{l:List (COp×AV)}{g:List Int×ByteArray}(h:stepF l=some g):(withG g.1 g.2 l 0).length<l.length:=by
 obtain⟨j,y,rest,hj,e1,hr,k1,hc⟩:=step_okF h
 have hjl:j<l.length:=(zM.1 hj).1
 rcases hc with hc |⟨_,_,_,m,hm,hmj,hmr⟩
 ·exact withG_lt (k:=j) hjl (by rw[e1];simp) (.inr hc)
 ·refine withG_lt (k:=m) hm (by rw[e1,zG];exact List.mem_cons_of_mem _ hmr) (.inl ?_)
  rw[e1];simp;omega
theorem stepC_of{l:List (COp×AV)}:stepC (l.map (·.1))=(stepF l).map fun g=>(withG g.1 g.2 l 0).map (·.1):=by
 unfold stepC
 rw[<-step_bare]
 cases stepF l with
 |none=>rfl
 |some g=>simp only[yB,withG_fst]
theorem stepC_lt{ops m:List COp}(h:stepC ops=some m):m.length<ops.length:=by
 rw[<-bare_fst (ops:=ops),stepC_of]at h
 cases hs:stepF (bare ops) with
 |none=>rw[hs]at h;cases h
 |some g=>
  rw[hs]at h
  simp only[yB,zQ]at h
  subst h
  have:=step_lt hs
  simpa using this
theorem stepC_ck{q b:Int}{ops m:List COp}(hk:CK q b ops)(hm:∀o∈ops,MOK o)(h:stepC ops=some m):CK q b m/\∀o∈m,MOK o:=by
 rw[<-bare_fst (ops:=ops),stepC_of]at h
 cases hs:stepF (bare ops) with
 |none=>rw[hs]at h;cases h
 |some g=>
  rw[hs]at h
  simp only[yB,zQ]at h
  subst h
  obtain⟨h1,_,_,_,h2⟩:=step_ck (l:=bare ops) (by rw[bare_fst];exact hk) hs
  refine⟨h1,fun o ho=>?_⟩
  obtain⟨y,hy,rfl⟩:=List.mem_map.1 ho
  refine h2 (fun z hz=>hm _ ?_) y hy
  obtain⟨o,ho,rfl⟩:=List.mem_map.1 hz
  exact ho
theorem runC_more:∀{n m:Nat}{ops:List COp},ops.length<=n->ops.length<=m->runC n ops=runC m ops
 |0,0,_,_,_=>rfl
 |0,m+1,ops,h1,h2=>by
  have:ops=[]:=List.length_eq_zero_iff.1 (by omega)
  subst this
  simp only[runC]
  split
  ·rfl
  ·rename_i e;have:=stepC_lt e;simp at this
 |n+1,0,ops,h1,h2=>by
  have:ops=[]:=List.length_eq_zero_iff.1 (by omega)
  subst this
  simp only[runC]
  split
  ·rfl
  ·rename_i e;have:=stepC_lt e;simp at this
 |n+1,m+1,ops,h1,h2=>by
  simp only[runC]
  split
  ·rfl
  ·rename_i e;have:=stepC_lt e;exact runC_more (by omega) (by omega)
def runT(ops:List COp):List COp:=runC ops.length ops
theorem runT_none{ops:List COp}(h:stepC ops=none):runT ops=ops:=by
 unfold runT
 cases hn:ops.length with
 |zero=>rfl
 |succ n=>simp only[runC,h]
theorem runT_some{ops m:List COp}(h:stepC ops=some m):runT ops=runT m:=by
 have:=stepC_lt h
 unfold runT
 cases hn:ops.length with
 |zero=>omega
 |succ n=>simp only[runC,h];exact runC_more (by omega) (zU _)
theorem runT_ck{q b:Int}:∀{n:Nat}{ops:List COp},ops.length<=n->CK q b ops->(∀o∈ops,MOK o)->CK q b (runT ops)/\(∀o∈runT ops,MOK o)/\stepC (runT ops)=none:=by
 intro n
 induction n with
 |zero=>
  intro ops hl hk hm
  cases hs:stepC ops with
  |none=>rw[runT_none hs];exact⟨hk,hm,hs⟩
  |some m=>have:=stepC_lt hs;omega
 |succ n ih=>
  intro ops hl hk hm
  cases hs:stepC ops with
  |none=>rw[runT_none hs];exact⟨hk,hm,hs⟩
  |some m=>
   rw[runT_some hs]
   have:=stepC_lt hs
   obtain⟨h1,h2⟩:=stepC_ck hk hm hs
   exact ih (by omega) h1 h2
theorem withG_ops{h:AH}{x y:AV}{l:List (COp×AV)}{gone:List Int}{nm:ByteArray}(hx:OpsL h x l)(hy:SlR encO 7 45 h y (withG gone nm l 0)):OpsL h y (withG gone nm l 0):=⟨hy,fun z hz=>by
 obtain⟨p,w,hp,e |⟨_,_,e⟩⟩:=withG_mem hz
 ·subst e;exact hx.qs _ (zP hp)
 ·subst e
  have:=hx.qs _ (zP hp)
  exact this⟩
theorem bldC0:aFill (fun i=>[(0,1),(1,1),(2,1)][i]?) ([Value.int .i64 0,.int .i64 0,.slice none 0 0].map .sc) []=some [I 0,I 0,nilS]:=rfl
theorem bldW{x:AV}(h:avCells x=some [x]):aFill (fun i=>[(0,1)][i]?) ([Value.slice none 0 0].map .sc) [(0,x)]=some [x]:=by
 simp only[aFill,h];rfl
def slShape(x:AV)(n:Nat):Prop:=x=nilS\/∃id,x=.sl id 0 n
theorem slL_shape{α:Type}{f:α->List AV}{sz:Nat}{ty:TypeId}{h:AH}{x:AV}{l:List α}(hs:SlL f sz ty h x l):slShape x l.length:=by
 rcases hs with⟨e,_⟩ |⟨id,e,_⟩
 ·exact .inl e
 ·exact .inr ⟨id,e⟩
section
variable {h:AH} {M:Nat->Prop} {R:AE->AH->Prop} {x:AV} {l:List (COp×AV)} {q b:Int}
theorem step2_ok(hx:OpsL h x l)(hs:slShape x l.length)(hk:CK q b (l.map (·.1)))
  (hR:∀y L h',Fr h h' (fun _=>False)->OpsL h' y L->slShape y L.length->(L.map (·.1)=(stepC (l.map (·.1))).getD (l.map (·.1)))->R (.ret (.tup [y,B (stepC (l.map (·.1))).isSome])) h'):ACalls Try.prog 23 [.agg [x]] h M R:=by
 have hl:=hk.n
 rw[zZ]at hl
 refine step_ok hx hk.wo hk.ao (by omega) fun h' f=>?_
 rw[step_F hk.wo hk.ao]
 have hc:=stepC_of (l:=l)
 cases hf:stepF l with
 |none=>
  rw[hf]at hc
  have:=hR x l h' f (hx.fr0 f) hs (by rw[hc];rfl)
  rw[hc]at this
  exact this
 |some g=>
  rw[hf]at hc
  intro y hy hi
  have:=hR y (withG g.1 g.2 l 0) h' f (withG_ops (hx.fr0 f) hy.toR) (slL_shape hy) (by rw[hc];rfl)
  rw[hc]at this
  exact this
theorem optStep_ok(hx:OpsL h x l)(hs:slShape x l.length)(hql:∀y∈l,y.1.qubits.length<=9000000000000000000)
  (hR1:∀h',Fr h h' (fun _=>False)->(checkP q b (l.map (·.1))).2≠0->R (.ret (.tup [.agg [I 0,I 0,nilS],B false,I (checkP q b (l.map (·.1))).2])) h')
  (hR2:∀h' xo yl,Fr h h' (fun _=>False)->CK q b (l.map (·.1))->FN h.next h' xo yl->yl.map (·.1)=(stepC (l.map (·.1))).getD (l.map (·.1))->R (.ret (.tup [.agg [I q,I b,xo],B (stepC (l.map (·.1))).isSome,I 0])) h') :
  ACalls Try.prog 10 [.agg [I q,I b,x]] h M R:=by
 apply F10.callsN
 unfold F10.n7
 refine box_var (cs:=[I q,I b,x]) (by simp only[List.all_cons,hx.tab.one.1];rfl) fun vc h1 f1 hn1 hoc=>?_
 simp only[eAlloc_d]
 refine⟨rfl,?_⟩
 have hor:=AH.alloc_new h1 (mkO (([.int .i64 0,.int .i64 0,.slice none 0 0]:List Value).map AV.sc) 3 24)
 have f2:Fr h1 (h1.alloc (mkO (([.int .i64 0,.int .i64 0,.slice none 0 0]:List Value).map AV.sc) 3 24)) (fun _=>False):=Fr.refl.alloc _
 have hcr:vc≠h1.next:=by have:=h1.lt _ _ hoc;omega
 have hvr:h.next<=h1.next:=f1.next
 generalize h1.alloc (mkO (([.int .i64 0,.int .i64 0,.slice none 0 0]:List Value).map AV.sc) 3 24)=h2 at *
 generalize h1.next=vr at *
 have hoc:=f2.ob0 hoc
 have f12:=f1.tr0 f2
 have hx2:=hx.fr0 f12
 unfold F10.n6
 refine var_ld hoc rfl fun _=>?_
 refine⟨fun _=>False,fun _ h=>h.elim,check_ok hx2 hql fun h3 f3=>?_⟩
 have f13:=f12.tr0 f3
 have hoc:=f3.ob0 hoc
 have hor:=f3.ob0 hor
 have hx3:=hx.fr0 f13
 simp only[res2,pExt_tup,zA,zB,cellK_some,F10.n5,pBin_neq,int_bne]
 by_cases he:(checkP q b (l.map (·.1))).2=0
 ·have hk:=check_iff.1 he
  simp only[zL he,zS,F10.n4,aIf_b,zD,zE,zC,zH]
  unfold F10.n2
  refine var_fld hoc rfl fun _=>?_
  refine⟨[x],bldW hx.tab.one.2,?_⟩
  refine⟨fun _=>False,fun _ h=>h.elim,step2_ok hx3 hs hk fun y L h4 f4 hy hsy hL=>?_⟩
  have f14:=f13.tr0 f4
  have hoc:=f4.ob0 hoc
  have hor:=f4.ob0 hor
  simp only[pExt_tup,zA,zB,cellK_some]
  unfold F10.n1
  refine var_ld hoc rfl fun _=>?_
  have hkL:CK q b (L.map (·.1)):=by
   rw[hL]
   cases hc:stepC (l.map (·.1)) with
   |none=>exact hk
   |some m=>
    rw[<-bare_fst (ops:=l.map (·.1)),stepC_of]at hc
    cases hs:stepF (bare (l.map (·.1))) with
    |none=>rw[hs]at hc;cases hc
    |some g=>
     rw[hs]at hc
     simp only[yB,zQ]at hc
     subst hc
     exact(step_ck (l:=bare (l.map (·.1))) (by rw[bare_fst];exact hk) hs).1
  have hnL:=hkL.n
  rw[zZ]at hnL
  refine⟨fun _=>False,fun _ h=>h.elim,copied_ok hy hsy hx.tab.one.1 (fun z hz=>⟨(hkL.wo z hz).2.2,(hkL.wo z hz).1.1⟩) (by omega) fun xo yl h5 f5 hn he=>?_⟩
  have f15:=f14.tr0 f5
  have hor:=f5.ob0 hor
  simp only[eStore_f,hor,avC_agg,stk_mk]
  refine⟨⟨.inr hvr,by simp only[List.all_cons,hn.o.toR.one.1];rfl,rfl,by simp⟩,?_⟩
  have o6:(h5.put vr 0 [I q,I b,xo]).obj vr=some (mkO [I q,I b,xo] 3 24):=by rw[put_row hor];rfl
  have f6:Fr h5 (h5.put vr 0 [I q,I b,xo]) (·=vr):=Fr.refl.put (.inl rfl)
  have fin:=hR2 _ xo yl (fr_set f15 hvr f6) hk ((⟨slL_ne hn.o hor (by decide) f6,hn.n,fun y hy=>⟨slL_ne (hn.qs y hy).1 hor (by decide) f6,(hn.qs y hy).2⟩,hn.pw⟩:FN h4.next _ xo yl).mono f14.next) (he.trans hL)
  simp only[retV,aResV,ag24,sz24]
  exact var_ld o6 rfl fun _=>fin
 ·simp only[zK he,zT,F10.n4,aIf_b,zD,zF,zC,zI]
  unfold F10.n3
  refine⟨_,bldC0,?_⟩
  simp only[eStore_f,hor,avC_agg,stk_mk]
  refine⟨⟨.inr hvr,rfl,rfl,by simp⟩,?_⟩
  have o6:(h3.put vr 0 [I 0,I 0,nilS]).obj vr=some (mkO [I 0,I 0,nilS] 3 24):=by rw[put_row hor];rfl
  have f6:Fr h3 (h3.put vr 0 [I 0,I 0,nilS]) (·=vr):=Fr.refl.put (.inl rfl)
  have fin:=hR1 _ (fr_set f13 hvr f6) he
  simp only[retV,aResV,ag24,sz24]
  exact var_ld o6 rfl fun _=>fin
theorem optRun_ok(hx:OpsL h x l)(hs:slShape x l.length)(hql:∀y∈l,y.1.qubits.length<=9000000000000000000)(hm:∀y∈l,MOK y.1)
  (hR1:∀h',Fr h h' (fun _=>False)->(checkP q b (l.map (·.1))).2≠0->R (.ret (.tup [.agg [I 0,I 0,nilS],I (checkP q b (l.map (·.1))).2])) h')
  (hR2:∀h' xo yl,Fr h h' (fun _=>False)->CK q b (l.map (·.1))->FN h.next h' xo yl->yl.map (·.1)=runT (l.map (·.1))->R (.ret (.tup [.agg [I q,I b,xo],I 0])) h') :
  ACalls Try.prog 15 [.agg [I q,I b,x]] h M R:=by
 apply F15.callsN
 unfold F15.n11
 refine box_var (cs:=[I q,I b,x]) (by simp only[List.all_cons,hx.tab.one.1];rfl) fun vc h1 f1 hn1 hoc=>?_
 simp only[eAlloc_d]
 refine⟨rfl,?_⟩
 have hor:=AH.alloc_new h1 (mkO (([.int .i64 0,.int .i64 0,.slice none 0 0]:List Value).map AV.sc) 3 24)
 have f2:Fr h1 (h1.alloc (mkO (([.int .i64 0,.int .i64 0,.slice none 0 0]:List Value).map AV.sc) 3 24)) (fun _=>False):=Fr.refl.alloc _
 have hcr:vc≠h1.next:=by have:=h1.lt _ _ hoc;omega
 have hvr:h.next<=h1.next:=f1.next
 generalize h1.alloc (mkO (([.int .i64 0,.int .i64 0,.slice none 0 0]:List Value).map AV.sc) 3 24)=h2 at *
 generalize h1.next=vr at *
 have hoc:=f2.ob0 hoc
 have f12:=f1.tr0 f2
 have hx2:=hx.fr0 f12
 unfold F15.n10
 refine var_ld hoc rfl fun _=>?_
 refine⟨fun _=>False,fun _ h=>h.elim,check_ok hx2 hql fun h3 f3=>?_⟩
 have f13:=f12.tr0 f3
 have hoc:=f3.ob0 hoc
 have hor:=f3.ob0 hor
 have hx3:=hx.fr0 f13
 simp only[res2,pExt_tup,zA,zB,cellK_some,F15.n9,pBin_neq,int_bne]
 by_cases he:(checkP q b (l.map (·.1))).2=0
 ·have hk:=check_iff.1 he
  have hm0:∀o∈l.map (·.1),MOK o:=fun o ho=>by
   obtain⟨y,hy,rfl⟩:=List.mem_map.1 ho
   exact hm y hy
  have nxt:∀{ops:List COp},CK q b ops->(∀o∈ops,MOK o)->CK q b ((stepC ops).getD ops)/\(∀o∈(stepC ops).getD ops,MOK o):=fun{ops} hk hm=>by
   cases hc:stepC ops with
   |none=>exact⟨hk,hm⟩
   |some m=>exact stepC_ck hk hm hc
  simp only[zL he,zS,F15.n8,aIf_b,zD,zE,zC,zH]
  unfold F15.n6
  refine var_fld hoc rfl fun _=>?_
  refine⟨[x],bldW hx.tab.one.2,?_⟩
  refine⟨fun _=>False,fun _ h=>h.elim,step2_ok hx3 hs hk fun y L h4 f4 hy hsy hL=>?_⟩
  have f14:=f13.tr0 f4
  have hoc:=f4.ob0 hoc
  have hor:=f4.ob0 hor
  simp only[pExt_tup,zA,zB,cellK_some]
  unfold F15.n5
  refine vLoop_of (ι:=Bool×List (COp×AV)) (fun s v h'=>∃xc,v=[.ptr vc 0,.ptr vr 0,xc,B s.1]/\Fr h h' (fun _=>False)/\h'.obj vc=some (mkO [I q,I b,x] 3 24)/\h'.obj vr=some (mkO (([.int .i64 0,.int .i64 0,.slice none 0 0]:List Value).map AV.sc) 3 24) /\
   OpsL h' xc s.2/\slShape xc s.2.length/\CK q b (s.2.map (·.1))/\(∀o∈s.2.map (·.1),MOK o)/\(if s.1=true then runT (s.2.map (·.1)) else s.2.map (·.1))=runT (l.map (·.1))) (fun s=>if s.1=true then s.2.length+1 else 0) ((stepC (l.map (·.1))).isSome,L)
   ⟨y,rfl,f14,hoc,hor,hy,hsy,by rw[hL];exact(nxt hk hm0).1,by rw[hL];exact(nxt hk hm0).2,?_⟩ ?_
  ·simp only[hL]
   cases hc:stepC (l.map (·.1)) with
   |none=>exact(runT_none hc).symm
   |some m=>exact(runT_some hc).symm
  rintro K ⟨ok,L⟩ v h5 ⟨xc,rfl,f5,hoc,hor,hxc,hsc,hkL,hmL,hT⟩ hK
  simp only at hxc hsc hkL hmL hT hK
  simp only[F15.g1_,zN,zO,F15.n4]
  cases ok with
  |true=>
   simp only[F15.n3,aIf_b,zD,zF,zC,zI]
   unfold F15.n2
   refine⟨[xc],bldW hxc.tab.one.2,?_⟩
   refine⟨fun _=>False,fun _ h=>h.elim,step2_ok hxc hsc hkL fun y L2 h6 f6 hy hsy hL2=>?_⟩
   simp only[pExt_tup,zA,zB,cellK_some]
   refine hK ((stepC (L.map (·.1))).isSome,L2) _ _ ?_ ⟨y,rfl,f5.tr0 f6,f6.ob0 hoc,f6.ob0 hor,hy,hsy,by rw[hL2];exact(nxt hkL hmL).1,by rw[hL2];exact(nxt hkL hmL).2,?_⟩
   ·simp only[zV]
    cases hc:stepC (L.map (·.1)) with
    |none=>simp
    |some m=>
     have:=stepC_lt hc
     rw[hc]at hL2
     have h2:=congrArg List.length hL2
     simp only[Option.getD_some,zZ]at h2 this
     simp;omega
   ·rw[<-hT]
    simp only[hL2,zV]
    cases hc:stepC (L.map (·.1)) with
    |none=>exact(runT_none hc).symm
    |some m=>exact(runT_some hc).symm
  |false=>
   simp only[zE,if_false]at hT
   simp only[F15.n3,aIf_b,zD,zE,zC,zH,zV,zN,zO]
   unfold F15.n1
   refine var_ld hoc rfl fun _=>?_
   have hnL:=hkL.n
   rw[zZ]at hnL
   refine⟨fun _=>False,fun _ h=>h.elim,copied_ok hxc hsc hx.tab.one.1 (fun z hz=>⟨(hkL.wo z hz).2.2,(hkL.wo z hz).1.1⟩) (by omega) fun xo yl h6 f6 hn he=>?_⟩
   have f16:=f5.tr0 f6
   have hor:=f6.ob0 hor
   simp only[eStore_f,hor,avC_agg,stk_mk]
   refine⟨⟨.inr hvr,by simp only[List.all_cons,hn.o.toR.one.1];rfl,rfl,by simp⟩,?_⟩
   have o7:(h6.put vr 0 [I q,I b,xo]).obj vr=some (mkO [I q,I b,xo] 3 24):=by rw[put_row hor];rfl
   have f7:Fr h6 (h6.put vr 0 [I q,I b,xo]) (·=vr):=Fr.refl.put (.inl rfl)
   have fin:=hR2 _ xo yl (fr_set f16 hvr f7) hk ((⟨slL_ne hn.o hor (by decide) f7,hn.n,fun y hy=>⟨slL_ne (hn.qs y hy).1 hor (by decide) f7,(hn.qs y hy).2⟩,hn.pw⟩:FN h5.next _ xo yl).mono f5.next) (he.trans hT)
   simp only[retV,aResV,ag24,sz24]
   exact var_ld o7 rfl fun _=>fin
 ·simp only[zK he,zT,F15.n8,aIf_b,zD,zF,zC,zI]
  unfold F15.n7
  refine⟨_,bldC0,?_⟩
  simp only[eStore_f,hor,avC_agg,stk_mk]
  refine⟨⟨.inr hvr,rfl,rfl,by simp⟩,?_⟩
  have o6:(h3.put vr 0 [I 0,I 0,nilS]).obj vr=some (mkO [I 0,I 0,nilS] 3 24):=by rw[put_row hor];rfl
  have f6:Fr h3 (h3.put vr 0 [I 0,I 0,nilS]) (·=vr):=Fr.refl.put (.inl rfl)
  have fin:=hR1 _ (fr_set f13 hvr f6) he
  simp only[retV,aResV,ag24,sz24]
  exact var_ld o6 rfl fun _=>fin
end
end
section
open Go.Ab
attribute [-simp] eAlloc_d eStore_f
section
variable {h:AH} {M:Nat->Prop} {R:AE->AH->Prop} {x:AV} {l:List (COp×AV)} {q b:Int}
theorem ops_set{h h':AH}{v:Nat}{cs:List AV}{xo:AV}{yl:List (COp×AV)}(ho:h.obj v=some (mkO cs 3 24))(f:Fr h h' (·=v))(hx:OpsL h xo yl):OpsL h' xo yl:=by
 have no:∀{sz:Nat}{ty:TypeId},ty≠24->∀id o,h.obj id=some o->(o.ro=false->o.ty=ty)->¬id=v:=fun ht id o hi hty e=>by
  subst e
  rw[ho]at hi;cases hi
  exact ht (hty rfl).symm
 exact⟨hx.tab.fr f (no (sz:=7) (by decide)),fun y hy=>(hx.qs y hy).fr f (no (sz:=1) (by decide))⟩
theorem refStep_ok(hx:OpsL h x l)(hql:∀y∈l,y.1.qubits.length<=9000000000000000000)(hm:∀y∈l,MOK y.1)
  (hR1:∀h',Fr h h' (fun _=>False)->(checkP q b (l.map (·.1))).2≠0->R (.ret (.tup [.agg [I 0,I 0,nilS],B false,I (checkP q b (l.map (·.1))).2])) h')
  (hR2:∀h' xo yl,Fr h h' (fun _=>False)->CK q b (l.map (·.1))->OpsL h' xo yl->yl.map (·.1)=(stepC (l.map (·.1))).getD (l.map (·.1))->R (.ret (.tup [.agg [I q,I b,xo],B (stepC (l.map (·.1))).isSome,I 0])) h') :
  ACalls Try.prog 9 [.agg [I q,I b,x]] h M R:=by
 apply F9.callsN
 unfold F9.n20
 refine box_var (cs:=[I q,I b,x]) (by simp only[List.all_cons,hx.tab.one.1];rfl) fun vc h1 f1 hn1 hoc=>?_
 simp only[eAlloc_d]
 refine⟨rfl,?_⟩
 have hor:=AH.alloc_new h1 (mkO (([.int .i64 0,.int .i64 0,.slice none 0 0]:List Value).map AV.sc) 3 24)
 have f2:Fr h1 (h1.alloc (mkO (([.int .i64 0,.int .i64 0,.slice none 0 0]:List Value).map AV.sc) 3 24)) (fun _=>False):=Fr.refl.alloc _
 have hcr:vc≠h1.next:=by have:=h1.lt _ _ hoc;omega
 have hvr:h.next<=h1.next:=f1.next
 generalize h1.alloc (mkO (([.int .i64 0,.int .i64 0,.slice none 0 0]:List Value).map AV.sc) 3 24)=h2 at *
 generalize h1.next=vr at *
 have hoc:=f2.ob0 hoc
 have f12:=f1.tr0 f2
 have hx2:=hx.fr0 f12
 have hm0:∀o∈l.map (·.1),MOK o:=fun o ho=>by
  obtain⟨y,hy,rfl⟩:=List.mem_map.1 ho
  exact hm y hy
 unfold F9.n19
 refine var_ld hoc rfl fun _=>?_
 refine⟨fun _=>False,fun _ h=>h.elim,refCheck_ok hx2 hql fun h3 f3=>?_⟩
 rw[check_same hm0]
 have f13:=f12.tr0 f3
 have hoc:=f3.ob0 hoc
 have hor:=f3.ob0 hor
 have hx3:=hx.fr0 f13
 simp only[res2,pExt_tup,zA,zB,cellK_some,F9.n18,pBin_neq,int_bne]
 by_cases he:(checkP q b (l.map (·.1))).2=0
 ·have hk:=check_iff.1 he
  have hnl:=hk.n
  rw[zZ]at hnl
  have hc:=stepC_of (l:=l)
  simp only[zL he,zS,F9.n17,aIf_b,zD,zE,zC,zH]
  unfold F9.n15 F9.n14
  refine vLoop_of (ι:=Nat) (fun r v h'=>v=[.ptr vc 0,.ptr vr 0,I ((r:Int)+1)]/\r<=4/\Fr h h' (fun _=>False)/\h'.obj vc=some (mkO [I q,I b,x] 3 24)/\h'.obj vr=some (mkO (([.int .i64 0,.int .i64 0,.slice none 0 0]:List Value).map AV.sc) 3 24) /\
   ruleF l (4-r) r=stepF l) (fun r=>4-r) 0 ⟨rfl,by omega,f13,hoc,hor,rfl⟩ ?_
  rintro K r v h4 ⟨rfl,hr,f4,hoc,hor,hT⟩ hK
  simp only[F9.g1_,zN,zO,F9.n13,pBin_leq]
  by_cases hlt:r<4
  ·have hli:(r:Int)+1<=4:=by omega
   have w1:IntKind.i64.wrap ((r:Int)+1+1)=((r+1:Nat):Int)+1:=by rw[wrap_in (by omega) (by omega)];simp
   simp only[zL hli,F9.n12,aIf_b,zD,zF,zC,zI]
   unfold F9.n11 F9.n10
   rw[show 4-r=(4-(r+1))+1 by omega]at hT
   simp only[ruleF]at hT
   refine vLoop_of (ι:=Nat) (fun j v h'=>v=[.ptr vc 0,.ptr vr 0,I ((r:Int)+1),I j]/\j<=l.length/\Fr h h' (fun _=>False)/\h'.obj vc=some (mkO [I q,I b,x] 3 24)/\h'.obj vr=some (mkO (([.int .i64 0,.int .i64 0,.slice none 0 0]:List Value).map AV.sc) 3 24) /\
    placeF l r (l.length-j) j=placeF l r l.length 0) (fun j=>l.length-j) 0 ⟨rfl,by omega,f4,hoc,hor,rfl⟩ ?_
   rintro K2 j v h5 ⟨rfl,hj,f5,hoc,hor,hp⟩ hK2
   have hx5:=hx.fr0 f5
   simp only[F9.g2_,zN,zO]
   unfold F9.n9
   refine var_fld hoc rfl fun _=>?_
   simp only[hx5.tab.len.1,hx5.tab.len.2,zH,pBin_lss]
   by_cases hjl:j<l.length
   ·have hlj:(j:Int)<l.length:=by omega
    have w2:IntKind.i64.wrap ((j:Int)+1)=((j+1:Nat):Int):=by rw[wrap_in (by omega) (by omega)];simp
    obtain⟨⟨a,xa⟩,g1⟩:∃y,l[j]?=some y:=⟨_,zJ hjl⟩
    rw[show l.length-j=(l.length-(j+1))+1 by omega]at hp
    simp only[placeF]at hp
    simp only[zL hlj,F9.n8,aIf_b,zD,zF,zC,zI]
    unfold F9.n7
    refine var_ld hoc rfl fun _=>?_
    refine⟨fun _=>False,fun _ h=>h.elim,refFits_ok hx5 hk.wo hk.ao (by omega) g1 hlt fun h6 f6=>?_⟩
    have f56:=f5.tr0 f6
    have hoc:=f6.ob0 hoc
    have hor:=f6.ob0 hor
    cases hf:fitP l r j with
    |none=>
     rw[hf]at hp
     intro xg nm
     simp only[pExt_tup,zA,zB,cellK_some,F9.n6,F9.n5,aIf_b,zD,zE,zC,zH,F9.n3,pBin_add,w2]
     exact hK2 (j+1) _ _ (by omega) ⟨rfl,by omega,f56,hoc,hor,hp⟩
    |some g=>
     rw[hf]at hp
     rw[<-hp]at hT
     intro xg hxg
     simp only[pExt_tup,zA,zB,cellK_some,F9.n6,F9.n5,aIf_b,zD,zF,zC,zI]
     unfold F9.n4
     refine var_ld hoc rfl fun _=>?_
     obtain⟨_,_,hne,hgl,_⟩:=step_ck hk hT.symm
     refine⟨fun _=>False,fun _ h=>h.elim,refWithout_ok (hx.fr0 f56) hk.wo hxg (fun e=>absurd e hne) hgl (by omega) fun y L h7 f7 hy hL=>?_⟩
     have f57:=f56.tr0 f7
     have hor:=f7.ob0 hor
     simp only[eStore_f,hor,avC_agg,stk_mk]
     refine⟨⟨.inr hvr,by simp only[List.all_cons,hy.tab.one.1];rfl,rfl,by simp⟩,?_⟩
     have o7:(h7.put vr 0 [I q,I b,y]).obj vr=some (mkO [I q,I b,y] 3 24):=by rw[put_row hor];rfl
     have f8:Fr h7 (h7.put vr 0 [I q,I b,y]) (·=vr):=Fr.refl.put (.inl rfl)
     rw[<-hT]at hc
     have fin:=hR2 _ y L (fr_set f57 hvr f8) hk (ops_set hor f8 hy) (by rw[hL,hc];rfl)
     rw[hc]at fin
     simp only[retV,aResV,ag24,sz24]
     exact var_ld o7 rfl fun _=>fin
   ·have hnl:¬(j:Int)<l.length:=by omega
    rw[show l.length-j=0 by omega]at hp
    simp only[placeF]at hp
    rw[<-hp]at hT
    simp only[zK hnl,F9.n8,aIf_b,zD,zE,zC,zH,zV,zN,zO,F9.n2,pBin_add,w1]
    exact hK (r+1) _ _ (by omega) ⟨rfl,by omega,f5,hoc,hor,hT⟩
  ·have hnl:¬(r:Int)+1<=4:=by omega
   rw[show 4-r=0 by omega]at hT
   simp only[ruleF]at hT
   rw[<-hT]at hc
   simp only[zK hnl,F9.n12,aIf_b,zD,zE,zC,zH,zV,zN,zO]
   unfold F9.n1
   refine var_ld hoc rfl fun _=>?_
   refine⟨fun _=>False,fun _ h=>h.elim,refWithout_ok (gone:=[]) (nm:=⟨#[]⟩) (hx.fr0 f4) hk.wo (.inl ⟨rfl,rfl⟩) (fun _=>rfl) (by simp) (by omega) fun y L h7 f7 hy hL=>?_⟩
   have f57:=f4.tr0 f7
   have hor:=f7.ob0 hor
   simp only[eStore_f,hor,avC_agg,stk_mk]
   refine⟨⟨.inr hvr,by simp only[List.all_cons,hy.tab.one.1];rfl,rfl,by simp⟩,?_⟩
   have o7:(h7.put vr 0 [I q,I b,y]).obj vr=some (mkO [I q,I b,y] 3 24):=by rw[put_row hor];rfl
   have f8:Fr h7 (h7.put vr 0 [I q,I b,y]) (·=vr):=Fr.refl.put (.inl rfl)
   have hw:∀(l:List (COp×AV))(i:Nat),withG [] ⟨#[]⟩ l i=l:=fun l=>by
    induction l with
    |nil=>intro _;rfl
    |cons y l ih=>
     intro i
     simp only[withG,ih]
     have:wOne [] ⟨#[]⟩ i y=[y]:=by
      unfold wOne
      rw[zW (by rw[show(⟨#[]⟩:ByteArray)=ByteArray.empty from rfl];simp),zW (by simp[memB,idxN])]
     rw[this];rfl
   have fin:=hR2 _ y L (fr_set f57 hvr f8) hk (ops_set hor f8 hy) (by rw[hL,hw,hc];rfl)
   rw[hc]at fin
   simp only[retV,aResV,ag24,sz24]
   exact var_ld o7 rfl fun _=>fin
 ·simp only[zK he,zT,F9.n17,aIf_b,zD,zF,zC,zI]
  unfold F9.n16
  refine⟨_,bldC0,?_⟩
  simp only[eStore_f,hor,avC_agg,stk_mk]
  refine⟨⟨.inr hvr,rfl,rfl,by simp⟩,?_⟩
  have o6:(h3.put vr 0 [I 0,I 0,nilS]).obj vr=some (mkO [I 0,I 0,nilS] 3 24):=by rw[put_row hor];rfl
  have f6:Fr h3 (h3.put vr 0 [I 0,I 0,nilS]) (·=vr):=Fr.refl.put (.inl rfl)
  have fin:=hR1 _ (fr_set f13 hvr f6) he
  simp only[retV,aResV,ag24,sz24]
  exact var_ld o6 rfl fun _=>fin
theorem refRun_ok(hx:OpsL h x l)(hql:∀y∈l,y.1.qubits.length<=9000000000000000000)(hm:∀y∈l,MOK y.1)
  (hR1:∀h',Fr h h' (fun _=>False)->(checkP q b (l.map (·.1))).2≠0->R (.ret (.tup [.agg [I 0,I 0,nilS],I (checkP q b (l.map (·.1))).2])) h')
  (hR2:∀h' xo yl,Fr h h' (fun _=>False)->CK q b (l.map (·.1))->OpsL h' xo yl->yl.map (·.1)=runT (l.map (·.1))->R (.ret (.tup [.agg [I q,I b,xo],I 0])) h') :
  ACalls Try.prog 14 [.agg [I q,I b,x]] h M R:=by
 apply F14.callsN
 unfold F14.n10
 refine box_var (cs:=[I q,I b,x]) (by simp only[List.all_cons,hx.tab.one.1];rfl) fun vc h1 f1 hn1 hoc=>?_
 simp only[eAlloc_d]
 refine⟨rfl,?_⟩
 have hor:=AH.alloc_new h1 (mkO (([.int .i64 0,.int .i64 0,.slice none 0 0]:List Value).map AV.sc) 3 24)
 have f2:Fr h1 (h1.alloc (mkO (([.int .i64 0,.int .i64 0,.slice none 0 0]:List Value).map AV.sc) 3 24)) (fun _=>False):=Fr.refl.alloc _
 have hcr:vc≠h1.next:=by have:=h1.lt _ _ hoc;omega
 have hvr:h.next<=h1.next:=f1.next
 generalize h1.alloc (mkO (([.int .i64 0,.int .i64 0,.slice none 0 0]:List Value).map AV.sc) 3 24)=h2 at *
 generalize h1.next=vr at *
 have hoc:=f2.ob0 hoc
 have f12:=f1.tr0 f2
 have hx2:=hx.fr0 f12
 have hm0:∀o∈l.map (·.1),MOK o:=fun o ho=>by
  obtain⟨y,hy,rfl⟩:=List.mem_map.1 ho
  exact hm y hy
 have hq0:∀o∈l.map (·.1),o.qubits.length<=9000000000000000000:=fun o ho=>by
  obtain⟨y,hy,rfl⟩:=List.mem_map.1 ho
  exact hql y hy
 unfold F14.n9
 refine vLoop_of (ι:=List (COp×AV)) (fun L v h'=>∃xc,v=[.ptr vc 0,.ptr vr 0]/\Fr h h' (fun _=>False)/\h'.obj vc=some (mkO [I q,I b,xc] 3 24)/\h'.obj vr=some (mkO (([.int .i64 0,.int .i64 0,.slice none 0 0]:List Value).map AV.sc) 3 24) /\
  OpsL h' xc L/\(∀o∈L.map (·.1),MOK o)/\(∀o∈L.map (·.1),o.qubits.length<=9000000000000000000)/\(L.map (·.1)=l.map (·.1)\/(CK q b (l.map (·.1))/\CK q b (L.map (·.1))))/\runT (L.map (·.1))=runT (l.map (·.1))) (fun L=>L.length) l
  ⟨x,rfl,f12,hoc,hor,hx2,hm0,hq0,.inl rfl,rfl⟩ ?_
 rintro K L v h3 ⟨xc,rfl,f3,hoc,hor,hxc,hmL,hqL,hkL,hT⟩ hK
 simp only[F14.g1_,zN,zO]
 unfold F14.n8
 refine var_ld hoc rfl fun _=>?_
 refine⟨fun _=>False,fun _ h=>h.elim,refStep_ok hxc (fun y hy=>hqL _ (List.mem_map_of_mem hy)) (fun y hy=>hmL _ (List.mem_map_of_mem hy)) (fun h4 f4 he=>?_) fun h4 xo yl f4 hk hxo hyl=>?_⟩
 ·have hLl:L.map (·.1)=l.map (·.1):=by
   rcases hkL with e |⟨_,e⟩
   ·exact e
   ·exact absurd (check_iff.2 e) he
  rw[hLl]at he ⊢
  have f14:=f3.tr0 f4
  simp only[pExt_tup,zA,zB,cellK_some]
  refine new_var (cs:=[I 0,I 0,nilS]) rfl rfl rfl rfl (fun id hid=>.inr (zR f14.next hid)) fun vd h5 f5 hn5 hod=>?_
  have f15:=f14.tr0 f5
  have hor:=f5.ob0 (f4.ob0 hor)
  simp only[F14.n7,pBin_neq,int_bne,zK he,zT,F14.n6,aIf_b,zD,zF,zC,zI]
  unfold F14.n5
  refine⟨_,bldC0,?_⟩
  simp only[eStore_f,hor,avC_agg,stk_mk]
  refine⟨⟨.inr hvr,rfl,rfl,by simp⟩,?_⟩
  have o6:(h5.put vr 0 [I 0,I 0,nilS]).obj vr=some (mkO [I 0,I 0,nilS] 3 24):=by rw[put_row hor];rfl
  have f6:Fr h5 (h5.put vr 0 [I 0,I 0,nilS]) (·=vr):=Fr.refl.put (.inl rfl)
  have fin:=hR1 _ (fr_set f15 hvr f6) he
  simp only[retV,aResV,ag24,sz24]
  exact var_ld o6 rfl fun _=>fin
 ·have f14:=f3.tr0 f4
  have hkl:CK q b (l.map (·.1)):=by
   rcases hkL with e |⟨e,_⟩
   ·rw[<-e];exact hk
   ·exact e
  simp only[pExt_tup,zA,zB,cellK_some]
  refine new_var (cs:=[I q,I b,xo]) (by simp only[List.all_cons,hxo.tab.one.1];rfl) rfl rfl rfl (fun id hid=>.inr (zR f14.next hid)) fun vd h5 f5 hn5 hod=>?_
  have f15:=f14.tr0 f5
  have hor:=f5.ob0 (f4.ob0 hor)
  have hoc:=f5.ob0 (f4.ob0 hoc)
  have hxo:=hxo.fr0 f5
  have h00:((0:Int) != 0)=false:=rfl
  simp only[F14.n7,pBin_neq,h00,F14.n6,aIf_b,zD,zE,zC,zH]
  simp only[F14.n4,pUn_not]
  cases hc:stepC (L.map (·.1)) with
  |none=>
   rw[hc]at hyl
   simp only[Option.isSome_none,zT,F14.n3,aIf_b,zD,zF,zC,zI]
   unfold F14.n2
   refine var_ld hod rfl fun _=>?_
   simp only[eStore_f,hor,avC_agg,stk_mk]
   refine⟨⟨.inr hvr,by simp only[List.all_cons,hxo.tab.one.1];rfl,rfl,by simp⟩,?_⟩
   have o6:(h5.put vr 0 [I q,I b,xo]).obj vr=some (mkO [I q,I b,xo] 3 24):=by rw[put_row hor];rfl
   have f6:Fr h5 (h5.put vr 0 [I q,I b,xo]) (·=vr):=Fr.refl.put (.inl rfl)
   have fin:=hR2 _ xo yl (fr_set f15 hvr f6) hkl (ops_set hor f6 hxo) (by rw[hyl,<-hT,runT_none hc];rfl)
   simp only[retV,aResV,ag24,sz24]
   exact var_ld o6 rfl fun _=>fin
  |some m=>
   rw[hc]at hyl
   simp only[Option.getD_some]at hyl
   simp only[Option.isSome_some,zS,F14.n3,aIf_b,zD,zE,zC,zH]
   unfold F14.n1
   refine var_ld hod rfl fun _=>?_
   simp only[eStore_f,hoc,avC_agg,stk_mk]
   refine⟨⟨.inr hn1,by simp only[List.all_cons,hxo.tab.one.1];rfl,rfl,by simp⟩,?_⟩
   have o6:(h5.put vc 0 [I q,I b,xo]).obj vc=some (mkO [I q,I b,xo] 3 24):=by rw[put_row hoc];rfl
   have f6:Fr h5 (h5.put vc 0 [I q,I b,xo]) (·=vc):=Fr.refl.put (.inl rfl)
   have hor6:=f6.obj hor (Ne.symm hcr)
   obtain⟨k1,k2⟩:=stepC_ck hk hmL hc
   have hlt:=stepC_lt hc
   refine hK yl _ _ ?_ ⟨xo,rfl,fr_set f15 hn1 f6,o6,hor6,ops_set hoc f6 hxo,by rw[hyl];exact k2,fun o ho=>?_,.inr ⟨hkl,by rw[hyl];exact k1⟩,by rw[hyl,<-hT,runT_some hc]⟩
   ·have:=congrArg List.length hyl
    simp only[zZ]at this hlt
    omega
   ·rw[hyl]at ho
    have:=(fault_iff.1 (k1.f o ho)).wo (y:=(o,nilS))
    have:=this.1.1
    simp only at this
    omega
end
end
end Go.Proofs.Ytbdibjgoeeokoaa
