/- Copies; the document's rules; both Steps and both Runs. No condition. -/
import Derived.Test.YtbdibjgoeeokoaaOb
set_option maxRecDepth 100000
namespace Go.Proofs.Ytbdibjgoeeokoaa
section
open Go.Ab
attribute [-simp] eAlloc_d eStore_f
theorem isSl42:isSliceT Try.prog 42=true:=by kernel_rfl
section
variable {h:AH} {M:Nat->Prop} {R:AE->AH->Prop} {x:AV} {l:List Int}
theorem cloneI_ok(hx:SlR encI 1 3 h x l)(hne:l≠[])(hl:l.length<=1000)(hR:∀y h',Fr h h' (fun _=>False)->SlL encI 1 3 h' y l->InS (h.next<=·) y->R (.ret y) h'):ACalls Try.prog 44 [x] h M R:=by
 apply F44.callsN
 obtain⟨id,e⟩:∃id,x=.sl id 0 l.length:=by
  rcases hx with⟨_,rfl⟩ |⟨_,_,_,rfl⟩ |⟨id,rest,ro,ty',e,_,ho⟩
  ·exact absurd rfl hne
  ·exact absurd rfl hne
  ·exact⟨id,e⟩
 subst e
 unfold F44.n5 F44.n4
 simp only[pBin,isSl42,zH,F44.n3,aIf_b,zD,zE,zC]
 unfold F44.n1
 refine bsl_0 fun z h1 hz hn1 f1=>?_
 refine app_all hz (hx.fr0 f1) encI_len (by omega) (by decide) (.inr hn1) fun z2 h2 hz2 hor f2=>?_
 have f12:=fr_set f1 hn1 f2
 exact hR _ h2 f12 (.inr ⟨z2,rfl,hz2⟩) fun i off n e=>by
  cases e
  rcases hor with rfl |h3
  ·exact hn1
  ·exact zR f1.next h3
theorem isSl22:isSliceT Try.prog 22=true:=by kernel_rfl
theorem cloneO_ok{l:List (COp×AV)}(hx:SlR encO 7 45 h x l)(hc:x=nilS\/∃id,x=.sl id 0 l.length)(hl:l.length<=1000000)(hR:∀y h',Fr h h' (fun _=>False)->SlL encO 7 45 h' y l->InS (h.next<=·) y->R (.ret y) h'):ACalls Try.prog 43 [x] h M R:=by
 apply F43.callsN
 unfold F43.n5 F43.n4
 rcases hc with rfl |⟨id,rfl⟩
 ·have hl0:l=[]:=by
   rcases hx with⟨_,h2⟩ |⟨_,_,_,h2⟩ |⟨_,_,_,_,h2,_⟩
   ·exact h2
   ·exact h2
   ·cases h2
  subst hl0
  simp only[pBin,isSl22,zH,F43.n3,aIf_b,zD,zF,zC,zI,F43.n2]
  exact hR _ h Fr.refl .nil fun _ _ _ e=>nomatch e
 ·simp only[pBin,isSl22,zH,F43.n3,aIf_b,zD,zE,zC]
  unfold F43.n1
  refine bsl_0 fun z h1 hz hn1 f1=>?_
  refine app_all hz (hx.fr0 f1) encO_len (by omega) (by decide) (.inr hn1) fun z2 h2 hz2 hor f2=>?_
  have f12:=fr_set f1 hn1 f2
  exact hR _ h2 f12 (.inr ⟨z2,rfl,hz2⟩) fun i off n e=>by
   cases e
   rcases hor with rfl |h3
   ·exact hn1
   ·exact zR f1.next h3
end
end
section
def exchP(l:List Int)(i j:Nat):List Int:=(l.set i (l.getD j 0)).set j (l.getD i 0)
def goodR(n:ByteArray)(a b:List Int):Bool:=
 if n=⟨#[99,122]⟩\/n=⟨#[99,115]⟩\/n=⟨#[99,115,100,103]⟩\/n=⟨#[115,119,97,112]⟩\/n=⟨#[105,115,119,97,112]⟩\/n=⟨#[105,115,119,97,112,100,103]⟩\/n=⟨#[99,99,122]⟩ then true
 else if n=⟨#[99,99,120]⟩ then decide (a=b)||decide (exchP a 0 1=b) else if n=⟨#[99,115,119,97,112]⟩ then decide (a=b)||decide (exchP a 1 2=b) else decide (a=b)
theorem good_same{n:ByteArray}{a b:List Int}(hda:a.Nodup)(hdb:b.Nodup)(hs:∀q,q∈a↔q∈b)(h3:n=⟨#[99,99,120]⟩\/n=⟨#[99,115,119,97,112]⟩->a.length=3/\b.length=3):goodR n a b=goodO n a b:=by
 unfold goodR goodO
 split
 ·rfl
 split
 ·rename_i e
  obtain⟨l1,l2⟩:=h3 (.inl e)
  match a,l1 with
  |[a0,a1,a2],_=>
   match b,l2 with
   |[b0,b1,b2],_=>
    have q0:=hs a0;have q1:=hs a1;have q2:=hs a2
    simp at hda hdb q0 q1 q2
    rw[Bool.eq_iff_iff]
    simp[exchP]
    omega
 split
 ·rename_i e
  obtain⟨l1,l2⟩:=h3 (.inr e)
  match a,l1 with
  |[a0,a1,a2],_=>
   match b,l2 with
   |[b0,b1,b2],_=>
    have q0:=hs a0;have q1:=hs a1;have q2:=hs a2
    simp at hda hdb q0 q1 q2
    rw[Bool.eq_iff_iff]
    simp[exchP]
    omega
 ·rfl
end
section
open Go.Ab
attribute [-simp] eAlloc_d eStore_f
end
section
open Go.Ab
attribute [-simp] eAlloc_d eStore_f
end
end Go.Proofs.Ytbdibjgoeeokoaa
namespace Go.Ab
attribute [-simp] eAlloc_d eStore_f
theorem AH.wid_obj{h:AH}{id p:Nat}{cs:List AV}{i:Nat}:(h.wid id p cs).obj i=if i=id then(h.obj i).map (fun o=>{ o with cells:=o.cells.take p++cs }) else h.obj i:=rfl
theorem Fr.wid{h h1:AH}{S:Nat->Prop}(a:Fr h h1 S){id p:Nat}{cs:List AV}(hs:S id\/h.next<=id):Fr h (h1.wid id p cs) S:=
 ⟨a.next,fun i hi hn=>by rw[AH.wid_obj,zW (fun e=>by subst e;exact hs.elim hn (fun h=>by omega))];exact a.keep i hi hn⟩
section
variable {α:Type} {f:α->List AV} {sz bytes:Nat} {ty ty2:TypeId} {h:AH} {W:Nat->Prop}
theorem SlR.news{v:AV}{m:List α}(hf:∀x,(f x).length=sz)(hm:SlR f sz ty h v m):news sz v h m.length (m.flatMap f):=by
 have hmm:(m.flatMap f).length=m.length*sz:=flat_len hf m
 rcases hm with⟨rfl,rfl⟩ |⟨_,_,rfl,rfl⟩ |⟨id,rest,ro,ty',rfl,_,ho⟩
 ·exact⟨rfl,rfl⟩
 ·exact⟨rfl,rfl⟩
 ·refine .inr ⟨rfl,_,ho,rfl,by simp[hmm],?_⟩
  simp only[List.drop_zero]
  rw[<-hmm,List.take_left]
theorem appR{K:AV->AH->Prop}{x v:AV}{l m:List α}(hf:∀x,(f x).length=sz)(hb:bytes<=1024)(hl:SlL f sz ty h x l)(hm:SlR f sz ty2 h v m)(hw:InS W x)(hn:l.length+m.length<=100100000)
  (hK:∀y h',SlL f sz ty h' y (l++m)->((y=x/\m=[])\/InS (h.next<=·) y)->Fr h h' (fun i=>∃off n,x=.sl i off n)->K y h'):eApp (some (sz,bytes,ty)) x v h W K:=by
 have hll:(l.flatMap f).length=l.length*sz:=flat_len hf l
 have hnb:(l.length+m.length)*bytes<=140737488355328:=by
  have:(l.length+m.length)*bytes<=100100000*1024:=Nat.mul_le_mul hn hb
  omega
 refine⟨m.length,m.flatMap f,hm.news hf,?_⟩
 rcases hl with⟨rfl,rfl⟩ |⟨id,rfl,ho⟩
 ·show if m.length=0 then _ else _
  by_cases h0:m.length=0
  ·rw[zX h0]
   have:m=[]:=List.length_eq_zero_iff.1 h0
   subst this
   exact hK nilS h .nil (.inl ⟨rfl,rfl⟩) Fr.refl
  ·rw[zW h0]
   refine⟨⟨by omega,by simpa using hnb⟩,?_⟩
   refine hK _ _ (.inr ⟨h.next,by simp,by rw[AH.alloc_new];simp[mkO]⟩) (.inr fun i of n e=>by cases e;exact zU _) (Fr.refl.alloc _)
 ·show if m.length=0 then _ else _
  by_cases h0:m.length=0
  ·rw[zX h0]
   have:m=[]:=List.length_eq_zero_iff.1 h0
   subst this
   exact hK _ h (.inr ⟨id,by simp,by simpa using ho⟩) (.inl ⟨rfl,rfl⟩) Fr.refl
  ·rw[zW h0]
   have hid:=h.lt _ _ ho
   refine .inl ⟨rfl,_,⟨hw _ _ _ rfl,ho,rfl,rfl,rfl,rfl,by simp[mkO,hll],by omega,hnb⟩,?_⟩
   refine hK _ _ (.inr ⟨h.next,by simp,?_⟩) (.inr fun i of n e=>by cases e;exact zU _) ?_
   ·rw[AH.alloc_obj,zX (by simp[AH.del_next])]
    simp only[mkO]
    rw[List.take_of_length_le (by omega),List.flatMap_append]
   ·refine⟨by simp only[AH.alloc_next,AH.del_next];omega,fun i hi hne=>?_⟩
    rw[AH.alloc_old (by simp only[AH.del_next];omega),AH.del_old fun e=>hne ⟨_,_,by rw[e]⟩]
theorem bsl2{z:List Value}(hf:∀x,(f x).length=sz)(hsz:0<sz)(hz:z.length=sz+sz){s t:α}(h1:(f s).all oneA=true)(h2:(f t).all oneA=true){K:AV->AH->Prop}
  (hK:∀h',SlL f sz ty h' (.sl h.next 0 2) [s,t]->Fr h h' (fun _=>False)->K (.sl h.next 0 2) h') :
  eBSl (some (sz,ty,z)) 2 [(0,.agg (f s)),(1,.agg (f t))] h K:=by
 have e1:putCells (z.map AV.sc) 0 (f s)=f s++(z.map AV.sc).drop sz:=by
  conv=>lhs;rw[<-List.take_append_drop sz (z.map AV.sc)]
  rw[putCells_0 _ _ _ (by rw[hf];simp;omega)]
 have e2:putCells (f s++(z.map AV.sc).drop sz) sz (f t)=f s++f t:=by
  have:=putCells_app (f s) (f t) ((z.map AV.sc).drop sz) 0
  rw[hf,Nat.add_zero]at this
  rw[this]
  have:=putCells_0 (f t) ((z.map AV.sc).drop sz) [] (by rw[hf];simp;omega)
  rw[List.append_nil,List.append_nil]at this
  rw[this]
 have hfill:aFill (fun i=>some (i*sz,sz)) (z.map .sc) [(0,.agg (f s)),(1,.agg (f t))]=some (f s++f t):=by
  simp only[aFill,avC_agg,Nat.zero_mul,Nat.one_mul,zG,hf,zH]
  rw[zX (by simp;omega),e1,zX (by simp[hf];omega),e2]
 refine⟨_,⟨hfill,by simp only[List.all_append,h1,h2,Bool.and_self]⟩,hK _ (.inr ⟨_,rfl,?_⟩) (Fr.refl.alloc _)⟩
 rw[AH.alloc_new];simp[mkO]
end
end Go.Ab
namespace Go.Proofs.Ytbdibjgoeeokoaa
section
open Go.Ab
attribute [-simp] eAlloc_d eStore_f
theorem pIxA_at{sz id len k:Nat}{K:AV->Prop}(h:k<len)(hK:K (.ptr id (k*sz))):pIxA (some (sz,none)) (.sl id 0 len) (I k) K:=by
 refine⟨⟨by omega,by omega⟩,?_⟩
 simpa using hK
end
section
open Go.Ab
attribute [-simp] eAlloc_d eStore_f
theorem ag45:aggOf Try.prog 45=some true:=by kernel_rfl
theorem sz45:szOf Try.prog 45=some 7:=by kernel_rfl
end
section
open Go.Ab
attribute [-simp] eAlloc_d eStore_f
def Sep(x y:AV):Prop:=∀id off n off' n',x=.sl id off n->y≠.sl id off' n'
structure FN (n0:Nat) (h:AH) (xo:AV) (yl:List (COp×AV)):Prop where
 o:SlL encO 7 45 h xo yl
 n:InS (n0<=·) xo
 qs:∀y∈yl,SlL encI 1 3 h y.2 y.1.qubits/\InS (n0<=·) y.2
 pw:yl.Pairwise fun a b=>Sep a.2 b.2
theorem FN.fr0{n:Nat}{h h':AH}{xo:AV}{yl:List (COp×AV)}(a:FN n h xo yl)(f:Fr h h' fun _=>False):FN n h' xo yl:=
 ⟨a.o.of_fr f fun _ _ h=>h,a.n,fun y hy=>⟨(a.qs y hy).1.of_fr f fun _ _ h=>h,(a.qs y hy).2⟩,a.pw⟩
theorem FN.ops{n:Nat}{h:AH}{xo:AV}{yl:List (COp×AV)}(a:FN n h xo yl):OpsL h xo yl:=⟨a.o.toR,fun y hy=>(a.qs y hy).1.toR⟩
theorem FN.mono{n m:Nat}{h:AH}{xo:AV}{yl:List (COp×AV)}(a:FN n h xo yl)(hm:m<=n):FN m h xo yl:=
 ⟨a.o,fun id off n e=>zR hm (a.n id off n e),fun y hy=>⟨(a.qs y hy).1,fun id off n e=>zR hm ((a.qs y hy).2 id off n e)⟩,a.pw⟩
theorem slL_lt{α:Type}{f:α->List AV}{sz:Nat}{ty:TypeId}{h:AH}{x:AV}{l:List α}(s:SlL f sz ty h x l):∀i of m,x=.sl i of m->i<h.next:=fun i of m e=>by
 rcases s with⟨e2,_⟩ |⟨j,e2,hj⟩
 ·rw[e2]at e;cases e
 ·rw[e2]at e;cases e;exact h.lt _ _ hj
theorem FN.lt{n:Nat}{h:AH}{xo:AV}{yl:List (COp×AV)}(a:FN n h xo yl):∀i of m,(xo=.sl i of m\/∃y∈yl,y.2=.sl i of m)->i<h.next:=by
 rintro i of m (e |⟨y,hy,e⟩)
 ·exact slL_lt a.o _ _ _ e
 ·exact slL_lt (a.qs y hy).1 _ _ _ e
theorem var_fldI{sz:Nat}{ty:TypeId}{h:AH}{K:AV->Nat->Prop}{cs:List AV}{vn k:Nat}{v:AV}(ho:h.obj vn=some (mkO cs sz ty))(hv:cs[k]?=some v)(hK:K v vn):pFld (some k) (.ptr vn 0) fun t=>lLd (some false) (some 1) t h K:=by
 simp only[pFld_ptr,lLd_f,ho,ldk_mk,zG,hv];exact hK
section
variable {h:AH} {M:Nat->Prop} {R:AE->AH->Prop} {x y:AV} {l:List (COp×AV)} {q b:Int}
theorem ag24:aggOf Try.prog 24=some true:=by kernel_rfl
theorem sz24:szOf Try.prog 24=some 3:=by kernel_rfl
theorem copied_ok(hx:OpsL h y l)(hc:y=nilS\/∃id,y=.sl id 0 l.length)(h1x:oneA x=true)(hq:∀z∈l,z.1.qubits≠[]/\z.1.qubits.length<=1000)(hl:l.length<=1000000)
  (hR:∀xo yl h',Fr h h' (fun _=>False)->FN h.next h' xo yl->yl.map (·.1)=l.map (·.1)->R (.ret (.agg [I q,I b,xo])) h'):ACalls Try.prog 24 [.agg [I q,I b,x],y] h M R:=by
 apply F24.callsN
 unfold F24.n10
 refine box_var (cs:=[I q,I b,x]) (by simp only[List.all_cons,h1x];rfl) fun vc h1 f1 hn1 hoc=>?_
 simp only[eAlloc_d]
 refine⟨rfl,?_⟩
 have hor:=AH.alloc_new h1 (mkO (([.int .i64 0,.int .i64 0,.slice none 0 0]:List Value).map AV.sc) 3 24)
 have f2:Fr h1 (h1.alloc (mkO (([.int .i64 0,.int .i64 0,.slice none 0 0]:List Value).map AV.sc) 3 24)) (fun _=>False):=Fr.refl.alloc _
 have hcr:vc≠h1.next:=by have:=h1.lt _ _ hoc;omega
 have hvr:h.next<=h1.next:=f1.next
 generalize h1.alloc (mkO (([.int .i64 0,.int .i64 0,.slice none 0 0]:List Value).map AV.sc) 3 24)=h2 at *
 generalize h1.next=vr at *
 have hoc:=f2.ob0 hoc
 have f12:=f1.tr0 f2
 unfold F24.n9
 refine⟨fun _=>False,fun _ h=>h.elim,cloneO_ok ((hx.fr0 f12).tab) hc hl fun z h3 f3 hz hin=>?_⟩
 have hoc:=f3.ob0 hoc
 have hor:=f3.ob0 hor
 have f13:=f12.tr0 f3
 have hz1:=hz.toR.one
 refine var_st hoc (by simp) hz1.1 hz1.2 (.inr hn1) fun h4 f4 hoc=>?_
 have hor:=f4.obj hor (Ne.symm hcr)
 have hz4:SlL encO 7 45 h4 z l:=hz.of_fr f4 fun id e he=>by
  have:=hin _ _ _ e
  have h5:vc<h2.next:=h2.lt _ _ (by assumption)
  have he:id=vc:=he
  omega
 have f14:=fr_set f13 hn1 f4
 have hin4:InS (h.next<=·) z:=fun id off n e=>zR f12.next (hin _ _ _ e)
 rw[show([I q,I b,x]:List AV).set 2 z=[I q,I b,z] from rfl]at hoc
 unfold F24.n8
 refine var_fld hoc rfl fun _=>?_
 simp only[hz4.toR.len.1,hz4.toR.len.2,zH]
 unfold F24.n7
 clear hz hin hz1
 refine vLoop_of (ι:=Nat) (fun i v h'=>∃yl,v=[.ptr vc 0,.ptr vr 0,z,I l.length,I i]/\i<=l.length/\Fr h h' (fun _=>False)/\h'.obj vc=some (mkO [I q,I b,z] 3 24)/\h'.obj vr=some (mkO (([.int .i64 0,.int .i64 0,.slice none 0 0]:List Value).map AV.sc) 3 24) /\
  SlL encO 7 45 h' z (yl++l.drop i)/\yl.map (·.1)=(l.take i).map (·.1)/\(∀y∈yl,SlL encI 1 3 h' y.2 y.1.qubits/\InS (h.next<=·) y.2)/\yl.Pairwise fun a b=>Sep a.2 b.2) (fun i=>l.length-i) 0
  ⟨[],rfl,by omega,f14,hoc,hor,hz4,rfl,fun _ h=>(by cases h),.nil⟩ ?_
 rintro K i v h5 ⟨yl,rfl,hi,f5,hoc,hor,hzl,hyl,hys,hpw⟩ hK
 simp only[F24.g1_,zN,zO]
 have hyn:yl.length=i:=by
  have:=congrArg List.length hyl
  simp only[zZ,yA]at this;omega
 have hx5:=hx.fr0 f5
 by_cases hlt:i<l.length
 ·have hli:(i:Int)<l.length:=by omega
  have w1:IntKind.i64.wrap ((i:Int)+1)=((i+1:Nat):Int):=by rw[wrap_in (by omega) (by omega)];simp
  have g0:l[i]?=some l[i]:=zJ hlt
  have gd:=List.drop_eq_getElem_cons hlt
  generalize l[i]=o at *
  have hmo:=zP g0
  have qo:=hx5.qs _ hmo
  have g1:(yl++l.drop i)[i]?=some o:=by rw[List.getElem?_append_right (by omega),hyn,Nat.sub_self,List.getElem?_drop,Nat.add_zero];exact g0
  obtain⟨idz,rfl⟩:∃idz,z=.sl idz 0 l.length:=by
   obtain⟨idz,e⟩:=hzl.sl (List.ne_nil_of_length_pos (by simp;omega))
   refine⟨idz,e.trans ?_⟩
   congr 1
   simp only[List.length_append,List.length_drop];omega
  simp only[F24.n6,pBin_lss,zL hli,F24.n5,aIf_b,zD,zF,zC,zI]
  unfold F24.n4
  refine rng_var hzl.toR encO_len (encO_one qo.one.1) g1 rfl rfl (fun id hid=>.inr (zR f5.next hid)) fun vo h6 f6 hn6 hoo=>?_
  have hoc:=f6.ob0 hoc
  have hor:=f6.ob0 hor
  have f56:=f5.tr0 f6
  unfold F24.n3
  refine⟨fun _=>vc,fun _ _=>by rw[hoc];simp,?_⟩
  refine var_fldI hoc rfl ⟨rfl,?_⟩
  refine var_fld hoo rfl fun _=>?_
  refine⟨fun _=>False,fun _ h=>h.elim,cloneI_ok (qo.fr0 f6) (hq _ hmo).1 (hq _ hmo).2 fun w h7 f7 hw hwi=>?_⟩
  have hoc:=f7.ob0 hoc
  have hor:=f7.ob0 hor
  have f57:=f56.tr0 f7
  have hz7:SlL encO 7 45 h7 (.sl idz 0 l.length) (yl++l.drop i):=(hzl.of_fr f6 fun _ _ h=>h).of_fr f7 fun _ _ h=>h
  rcases hz7 with⟨e,_⟩ |⟨idz',e,hoz⟩
  ·cases e
  injection e with e _ _
  subst e
  refine pIxA_at hlt ?_
  rw[gd]at hoz
  have hone:=hw.toR.one
  simp only[pFld_ptr,eStore_f,hoz,hone.2,stk_mk]
  have hidz:h.next<=idz:=hin4 _ _ _ rfl
  have hfl:((yl++o::l.drop (i+1)).flatMap encO).length=l.length*7:=by rw[flat_len encO_len];simp;omega
  refine⟨⟨.inr hidz,by simp only[List.all_cons,hone.1];rfl,rfl,by rw[hfl];show i*7+2+1<=l.length*7;omega⟩,?_⟩
  have o2:=put_mk (off:=i*7+2) (cs:=[w]) hoz
  have f8:Fr h7 (h7.put idz (i*7+2) [w]) (·=idz):=Fr.refl.put (.inl rfl)
  have hpc:putCells ((yl++o::l.drop (i+1)).flatMap encO) (i*7+2) [w]=(yl++(o.1,w)::l.drop (i+1)).flatMap encO:=by
   have:=putCells_app (yl.flatMap encO) [w] (encO o++(l.drop (i+1)).flatMap encO) 2
   rw[flat_len encO_len,hyn]at this
   simp only[List.flatMap_append,List.flatMap_cons]
   rw[this];rfl
  rw[hpc]at o2
  generalize h7.put idz (i*7+2) [w]=h8 at *
  have hoc:=f8.obj hoc (obj_ne hoc hoz (show(24:Nat)≠45 by decide))
  have hor:=f8.obj hor (obj_ne hor hoz (show(24:Nat)≠45 by decide))
  have f58:=fr_set f57 hidz f8
  have nq:∀{cs:List AV}{id:Nat},h7.obj id=some (mkO cs 1 3)->id≠idz:=fun ho=>obj_ne ho hoz (show(3:Nat)≠45 by decide)
  have keepI:∀{x:AV}{l:List Int},SlL encI 1 3 h7 x l->SlL encI 1 3 h8 x l:=fun hs=>hs.of_fr f8 fun id e=>by
   rcases hs with⟨e2,_⟩ |⟨j,e2,hj⟩
   ·rw[e2]at e;cases e
   ·rw[e2]at e;cases e;exact nq hj
  simp only[F24.n2,pBin_add,w1]
  refine hK (i+1) _ _ (by omega) ⟨yl++[(o.1,w)],rfl,by omega,f58,hoc,hor,.inr ⟨idz,?_,?_⟩,?_,?_,?_⟩
  ·congr 1;simp;omega
  ·rw[List.append_assoc];exact o2
  ·rw[List.map_append,hyl,List.take_add_one,List.map_append,g0];rfl
  ·intro y hy
   rcases List.mem_append.1 hy with hy |hy
   ·exact⟨keepI (((hys y hy).1.of_fr f6 fun _ _ h=>h).of_fr f7 fun _ _ h=>h),(hys y hy).2⟩
   ·simp only[List.mem_singleton]at hy
    subst hy
    exact⟨keepI hw,fun id off n e=>zR f56.next (hwi id off n e)⟩
  ·rw[List.pairwise_append]
   refine⟨hpw,List.pairwise_singleton _ _,fun a ha b hb=>?_⟩
   simp only[List.mem_singleton]at hb
   subst hb
   intro id of n of' n' e1 e2
   have h1:=slL_lt (hys a ha).1 _ _ _ e1
   have h2:=hwi _ _ _ e2
   have h3:=f6.next
   omega
 ·have hnl:¬(i:Int)<l.length:=by omega
  have hil:i=l.length:=by omega
  rw[List.drop_of_length_le (by omega),List.append_nil]at hzl
  rw[hil,List.take_of_length_le (zU _)]at hyl
  simp only[F24.n6,pBin_lss,zK hnl,F24.n5,aIf_b,zD,zE,zC,zH,zV,zN,zO]
  unfold F24.n1
  refine var_ld hoc rfl fun _=>?_
  simp only[eStore_f,hor,avC_agg,stk_mk]
  refine⟨⟨.inr hvr,by simp only[List.all_cons,hzl.toR.one.1];rfl,rfl,by simp⟩,?_⟩
  have o6:(h5.put vr 0 [I q,I b,z]).obj vr=some (mkO [I q,I b,z] 3 24):=by rw[put_row hor];rfl
  have f6:Fr h5 (h5.put vr 0 [I q,I b,z]) (·=vr):=Fr.refl.put (.inl rfl)
  have f56:=fr_set f5 hvr f6
  have nr:∀{α:Type}{f:α->List AV}{sz:Nat}{ty:TypeId}{x:AV}{l:List α},ty≠24->SlL f sz ty h5 x l->SlL f sz ty (h5.put vr 0 [I q,I b,z]) x l:=fun ht hs=>hs.of_fr f6 fun id e=>by
   rcases hs with⟨e2,_⟩ |⟨j,e2,hj⟩
   ·rw[e2]at e;cases e
   ·rw[e2]at e;cases e;exact obj_ne hj hor ht
  have fin:=hR z yl _ f56 ⟨nr (by decide) hzl,hin4,fun y hy=>⟨nr (by decide) (hys y hy).1,(hys y hy).2⟩,hpw⟩ hyl
  simp only[retV,aResV,ag24,sz24]
  exact var_ld o6 rfl fun _=>fin
end
end
section
open Go.Ab
attribute [-simp] eAlloc_d eStore_f
end
section
open Go.Ab
attribute [-simp] eAlloc_d eStore_f
def fitP(l:List (COp×AV))(r j:Nat):Option (List Int×ByteArray):=
 match l[j]? with
 |none=>none
 |some y=>if y.1.kind≠1 then none else
  match r with
  |0=>if y.1.name=⟨#[105]⟩ then some ([(j:Int)],⟨#[]⟩) else none
  |r+1=>match nbr l j y.1 with
   |none=>none
   |some k=>match l[k]? with
    |none=>none
    |some z=>match r with
     |0=>if z.1.name=backT y.1.name/\goodR y.1.name y.1.qubits z.1.qubits=true then some ([(j:Int),(k:Int)],⟨#[]⟩) else none
     |1=>if ((turnT y.1.name+turnT z.1.name)%8=0\/turningT ((turnT y.1.name+turnT z.1.name)%8)≠⟨#[]⟩)/\turnT y.1.name≠0/\turnT z.1.name≠0 then some ([(j:Int),(k:Int)],turningT ((turnT y.1.name+turnT z.1.name)%8)) else none
     |_=>match nbr l k z.1 with
      |none=>none
      |some m=>match l[m]? with
       |none=>none
       |some c=>if y.1.name=⟨#[104]⟩/\c.1.name=⟨#[104]⟩ then(if z.1.name=⟨#[120]⟩ then some ([(j:Int),(k:Int),(m:Int)],⟨#[122]⟩) else if z.1.name=⟨#[122]⟩ then some ([(j:Int),(k:Int),(m:Int)],⟨#[120]⟩) else none) else none
end
section
open Go.Ab
attribute [-simp] eAlloc_d eStore_f
theorem slL_ne{α:Type}{f:α->List AV}{sz sz':Nat}{ty ty':TypeId}{h h':AH}{x:AV}{l:List α}{v:Nat}{cs:List AV}(hs:SlL f sz ty h x l)(ho:h.obj v=some (mkO cs sz' ty'))(ht:ty≠ty')(hf:Fr h h' (·=v)):SlL f sz ty h' x l:=
 hs.of_fr hf fun id e=>by
  rcases hs with⟨e2,_⟩ |⟨j,e2,hj⟩
  ·rw[e2]at e;cases e
  ·rw[e2]at e;cases e;exact obj_ne hj ho ht
theorem slL_f0{α:Type}{f:α->List AV}{sz:Nat}{ty:TypeId}{h h':AH}{x:AV}{l:List α}(hs:SlL f sz ty h x l)(hf:Fr h h' fun _=>False):SlL f sz ty h' x l:=hs.of_fr hf fun _ _ h=>h
theorem idxN_shift{α:Type}[DecidableEq α]{x:α}:∀{l:List α}{i j:Nat},(idxN x l i).isSome=(idxN x l j).isSome
 |[],_,_=>rfl
 |a::l,i,j=>by
  simp only[idxN]
  split
  ·rfl
  ·exact idxN_shift
theorem memB_mem{α:Type}[DecidableEq α]{x:α}:∀{l:List α},memB x l=decide (x∈l)
 |[]=>by simp[memB,idxN]
 |a::l=>by
  have ih:=memB_mem (x:=x) (l:=l)
  unfold memB at ih ⊢
  simp only[idxN]
  split
  ·rename_i e;subst e;simp
  ·rename_i e
   rw[idxN_shift (j:=0),ih]
   simp only[List.mem_cons]
   by_cases h2:x∈l
   ·simp[h2]
   ·rw[zK h2,zK]
    rintro(h3 |h3)
    ·exact e (by rw[h3])
    ·exact h2 h3
end
section
open Go.Ab
def withC(gone:List Int)(nm:ByteArray):List COp->Nat->List COp
 |[],_=>[]
 |y::l,i=>(wOne gone nm i (y,nilS)).map (·.1)++withC gone nm l (i+1)
theorem withG_fst{gone:List Int}{nm:ByteArray}:∀{l:List (COp×AV)}{i:Nat},(withG gone nm l i).map (·.1)=withC gone nm (l.map (·.1)) i
 |[],_=>rfl
 |y::l,i=>by
  simp only[withG,List.map_append,List.map_cons,withC,withG_fst]
  congr 1
  unfold wOne
  split
  ·rfl
  split<;>rfl
def placeF(l:List (COp×AV))(r:Nat):Nat->Nat->Option (List Int×ByteArray)
 |0,_=>none
 |n+1,j=>match fitP l r j with
  |some g=>some g
  |none=>placeF l r n (j+1)
def ruleF(l:List (COp×AV)):Nat->Nat->Option (List Int×ByteArray)
 |0,_=>none
 |n+1,r=>match placeF l r l.length 0 with
  |some g=>some g
  |none=>ruleF l n (r+1)
def stepF(l:List (COp×AV)):Option (List Int×ByteArray):=ruleF l 4 0
theorem alike_mem{a b:COp}(h:alikeB a b=true):∀q,q∈a.qubits↔q∈b.qubits:=by
 simp only[alikeB,subB,yC,List.all_eq_true,decide_eq_true_eq]at h
 exact fun q=>⟨h.2.1 q,h.2.2 q⟩
theorem fit_rule{l:List (COp×AV)}{r j:Nat}(hr:r<4)(hq:∀y∈l,WO y)(ha1:∀y∈l,AO1 y):ruleP l r j=(fitP l r j).map fun g=>withG g.1 g.2 l 0:=by
 unfold ruleP fitP
 cases hj:l[j]? with
 |none=>rfl
 |some y=>
  have hmy:=zP hj
  have nk:¬y.1.kind=1->nbr l j y.1=none:=fun h=>by unfold nbr;rw[zW h]
  match r,hr with
  |0,_=>
   simp only[idleP]
   by_cases k:y.1.kind=1
   ·by_cases n:y.1.name=⟨#[105]⟩
    ·simp[k,n];rfl
    ·simp[k,n]
   ·simp[k]
  |1,_=>
   simp only[undoP]
   by_cases k:y.1.kind=1
   case neg=>simp[k,nk k]
   simp only[ne_eq,k,not_true_eq_false,if_false]
   cases hn:nbr l j y.1 with
   |none=>rfl
   |some m=>
    obtain⟨b,xb,hb,hal,_,_⟩:=nbr_in hn
    simp only[hb]
    have hmb:=zP hb
    have hgs:goodR y.1.name y.1.qubits b.qubits=goodO y.1.name y.1.qubits b.qubits:=by
     refine good_same (hq _ hmy).2.1 (hq _ hmb).2.1 (alike_mem hal) fun hc=>?_
     have e1:=alike_len (hq _ hmy).2.1 (hq _ hmb).2.1 hal
     obtain⟨e2,_⟩:=ha1 _ hmy k
     have e3:arityT y.1.name=3:=by rcases hc with hc |hc<;>rw[hc]<;>decide +kernel
     simp only at e1
     omega
    rw[hgs]
    by_cases c1:backT y.1.name=b.name
    ·by_cases c2:goodO y.1.name y.1.qubits b.qubits=true
     ·rw[zX ⟨c1,c2⟩,zX ⟨c1.symm,c2⟩];rfl
     ·rw[zW (fun h=>c2 h.2),zW (fun h=>c2 h.2)];rfl
    ·rw[zW (fun h=>c1 h.1),zW (fun h=>c1 h.1.symm)];rfl
  |2,_=>
   simp only[mergeP]
   by_cases k:y.1.kind=1
   case neg=>simp[k,nk k]
   simp only[ne_eq,k,not_true_eq_false,if_false]
   cases hn:nbr l j y.1 with
   |none=>rfl
   |some m=>
    obtain⟨b,xb,hb,hal,_,_⟩:=nbr_in hn
    simp only[hb]
    generalize (turnT y.1.name+turnT b.name)%8=s
    by_cases c1:turnT y.1.name=0
    ·simp[c1]
    by_cases c2:turnT b.name=0
    ·simp[c2]
    by_cases c3:turningT s=⟨#[]⟩
    ·by_cases c4:s=0
     ·simp[c1,c2,c3,c4]
     ·simp[c1,c2,c3,c4]
    ·simp[c1,c2,c3]
  |3,_=>
   simp only[flipP]
   by_cases k:y.1.kind=1
   case neg=>simp[k]
   simp only[ne_eq,k,not_true_eq_false,if_false,zH]
   by_cases c1:y.1.name=⟨#[104]⟩
   ·simp only[c1,zV,zH]
    cases hn:nbr l j y.1 with
    |none=>rfl
    |some m=>
     simp only[]
     cases hm:l[m]? with
     |none=>rfl
     |some z=>
      simp only[]
      cases hn2:nbr l m z.1 with
      |none=>rfl
      |some p=>
       simp only[]
       cases hp:l[p]? with
       |none=>rfl
       |some c=>
        simp only[]
        by_cases c2:c.1.name=⟨#[104]⟩
        ·by_cases c3:z.1.name=⟨#[120]⟩
         ·simp[c2,c3]
         ·by_cases c4:z.1.name=⟨#[122]⟩
          ·simp[c2,c4]
          ·simp[c2,c3,c4]
        ·simp[c2]
   ·simp only[c1,if_false,false_and]
    cases nbr l j y.1 with
    |none=>rfl
    |some m=>
     simp only[]
     cases l[m]? with
     |none=>rfl
     |some z=>
      simp only[]
      cases nbr l m z.1 with
      |none=>rfl
      |some p=>
       simp only[]
       cases l[p]?<;>rfl
theorem place_rule{l:List (COp×AV)}{r:Nat}(hr:r<4)(hq:∀y∈l,WO y)(ha1:∀y∈l,AO1 y):∀{n j:Nat},placeGo l r n j=(placeF l r n j).map fun g=>withG g.1 g.2 l 0
 |0,_=>rfl
 |n+1,j=>by
  simp only[placeGo,placeF]
  rw[fit_rule hr hq ha1]
  cases fitP l r j with
  |none=>exact place_rule hr hq ha1
  |some g=>rfl
theorem go_rule{l:List (COp×AV)}(hq:∀y∈l,WO y)(ha1:∀y∈l,AO1 y):∀{n r:Nat},n+r<=4->ruleGo l n r=(ruleF l n r).map fun g=>withG g.1 g.2 l 0
 |0,_,_=>rfl
 |n+1,r,h=>by
  simp only[ruleGo,ruleF]
  rw[place_rule (by omega) hq ha1]
  cases placeF l r l.length 0 with
  |none=>exact go_rule hq ha1 (by omega)
  |some g=>rfl
theorem step_F{l:List (COp×AV)}(hq:∀y∈l,WO y)(ha1:∀y∈l,AO1 y):stepP l=(stepF l).map fun g=>withG g.1 g.2 l 0:=go_rule hq ha1 (by omega)
theorem nbr_nat{l m:List (COp×AV)}(h:l.map (·.1)=m.map (·.1)){j:Nat}{a:COp}:nbr l j a=nbr m j a:=by unfold nbr;rw[h]
theorem get_nat{l m:List (COp×AV)}(h:l.map (·.1)=m.map (·.1))(j:Nat):(l[j]?=none/\m[j]?=none)\/∃o x y,l[j]?=some (o,x)/\m[j]?=some (o,y):=by
 have:=congrArg (·[j]?) h
 simp only[List.getElem?_map]at this
 cases h1:l[j]? with
 |none=>
  rw[h1]at this
  cases h2:m[j]? with
  |none=>exact .inl ⟨rfl,rfl⟩
  |some y=>rw[h2]at this;cases this
 |some y=>
  obtain⟨o,x⟩:=y
  rw[h1]at this
  cases h2:m[j]? with
  |none=>rw[h2]at this;cases this
  |some z=>
   obtain⟨p,w⟩:=z
   rw[h2]at this
   simp only[yB,zQ]at this
   subst this
   exact .inr ⟨o,x,w,rfl,rfl⟩
theorem fit_nat{l m:List (COp×AV)}(h:l.map (·.1)=m.map (·.1)){r j:Nat}:fitP l r j=fitP m r j:=by
 unfold fitP
 rcases get_nat h j with⟨e1,e2⟩ |⟨o,x,y,e1,e2⟩
 ·rw[e1,e2]
 rw[e1,e2]
 simp only[]
 split
 ·rfl
 match r with
 |0=>rfl
 |r+1=>
  simp only[]
  rw[nbr_nat h]
  cases nbr m j o with
  |none=>rfl
  |some k=>
   simp only[]
   rcases get_nat h k with⟨e3,e4⟩ |⟨o2,x2,y2,e3,e4⟩
   ·rw[e3,e4]
   rw[e3,e4]
   simp only[]
   match r with
   |0=>rfl
   |1=>rfl
   |r+2=>
    simp only[]
    rw[nbr_nat h]
    cases nbr m k o2 with
    |none=>rfl
    |some p=>
     simp only[]
     rcases get_nat h p with⟨e5,e6⟩ |⟨o3,x3,y3,e5,e6⟩
     ·rw[e5,e6]
     rw[e5,e6]
theorem place_nat{l m:List (COp×AV)}(h:l.map (·.1)=m.map (·.1)){r:Nat}:∀{n j:Nat},placeF l r n j=placeF m r n j
 |0,_=>rfl
 |n+1,j=>by simp only[placeF,fit_nat h,place_nat h]
theorem rule_nat{l m:List (COp×AV)}(h:l.map (·.1)=m.map (·.1)):∀{n r:Nat},ruleF l n r=ruleF m n r
 |0,_=>rfl
 |n+1,r=>by
  have hl:l.length=m.length:=by simpa using congrArg List.length h
  simp only[ruleF,hl,place_nat h,rule_nat h]
theorem step_nat{l m:List (COp×AV)}(h:l.map (·.1)=m.map (·.1)):stepF l=stepF m:=rule_nat h
abbrev bare(ops:List COp):List (COp×AV):=ops.map fun o=>(o,nilS)
theorem bare_fst{ops:List COp}:(bare ops).map (·.1)=ops:=by unfold bare;rw[List.map_map];exact List.map_id _
theorem step_bare{l:List (COp×AV)}:stepF l=stepF (bare (l.map (·.1))):=step_nat bare_fst.symm
def stepC(ops:List COp):Option (List COp):=(stepF (bare ops)).map fun g=>withC g.1 g.2 ops 0
def runC:Nat->List COp->List COp
 |0,l=>l
 |n+1,l=>match stepC l with
  |none=>l
  |some m=>runC n m
end
section
open Go.Ab
structure CK (q b:Int) (l:List COp):Prop where
 r:0<=q/\q<=64/\0<=b/\b<=64
 n:l.length<=4096
 f:∀o∈l,faultP q b o=0
 h:(l.map halvesP).sum<=36
theorem checkGo_iff{q b:Int}:∀{l:List COp}{i:Nat}{n:Int},n<=36->((checkGo q b l i n).2=0↔(∀o∈l,faultP q b o=0)/\n+(l.map halvesP).sum<=36)
 |[],_,_,h=>by simp[checkGo];omega
 |o::l,i,n,h=>by
  have hs:∀l:List COp,0<=(l.map halvesP).sum:=fun l=>by
   induction l with
   |nil=>simp
   |cons a l ih=>have:=halvesP_le a;simp only[List.map_cons,List.sum_cons];omega
  have h1:=hs l
  simp only[checkGo,List.map_cons,List.sum_cons,List.mem_cons,forall_eq_or_imp]
  split
  ·rename_i e
   exact⟨fun h=>absurd h e,fun h=>absurd h.1.1 e⟩
  ·rename_i e
   have e:faultP q b o=0:=by omega
   split
   ·constructor
    ·intro h;simp at h
    ·intro h;omega
   ·rw[checkGo_iff (by omega)]
    constructor
    ·exact fun h=>⟨⟨e,h.1⟩,by omega⟩
    ·exact fun h=>⟨h.1.2,by omega⟩
theorem checkGo_zero{q b:Int}:∀{l:List COp}{i:Nat}{n:Int},(checkGo q b l i n).2=0->checkGo q b l i n=(0,0)
 |[],_,_,_=>rfl
 |o::l,i,n,h=>by
  simp only[checkGo]at h ⊢
  split
  ·rename_i e;rw[zX e]at h;exact absurd h e
  ·rename_i e
   rw[zW e]at h
   split
   ·rename_i e2;rw[zX e2]at h;simp at h
   ·rename_i e2;rw[zW e2]at h;exact checkGo_zero h
theorem check_iff{q b:Int}{l:List COp}:(checkP q b l).2=0↔CK q b l:=by
 unfold checkP
 split
 ·exact⟨fun h=>by simp at h,fun h=>by have:=h.r;omega⟩
 split
 ·exact⟨fun h=>by simp at h,fun h=>by have:=h.n;omega⟩
 rw[checkGo_iff (by omega)]
 exact⟨fun h=>⟨by omega,by omega,h.1,by omega⟩,fun h=>⟨h.f,by have:=h.h;omega⟩⟩
theorem check_zero{q b:Int}{l:List COp}(h:CK q b l):checkP q b l=(0,0):=by
 have h2:=check_iff.2 h
 unfold checkP at h2 ⊢
 split
 ·rename_i e;have:=h.r;omega
 split
 ·rename_i e;have:=h.n;omega
 rename_i e1 e2
 rw[zW e1,zW e2]at h2
 exact checkGo_zero h2
theorem arityT_le(n:ByteArray):0<=arityT n/\arityT n<=3:=by
 unfold arityT
 split
 ·rename_i x hx
  have h1:=List.mem_of_find?_eq_some hx
  have key:∀x∈gateTab,0<=x.2.1/\x.2.1<=3:=by decide +kernel
  exact key x h1
 ·omega
theorem dup_nodup{l:List Int}(h:dupB l=false):l.Nodup:=by
 unfold dupB at h
 rw[List.any_eq_false]at h
 rw[List.nodup_iff_pairwise_ne,List.pairwise_iff_getElem]
 intro i j hi hj hij e
 refine h j (List.mem_range.2 hj) ?_
 rw[List.getD_eq_getElem?_getD,zJ hj,memB_mem]
 simp only[Option.getD_some,decide_eq_true_eq]
 rw[List.mem_take_iff_getElem]
 exact⟨i,by omega,e⟩
structure NoFlt (q b:Int) (o:COp):Prop where
 bo:badOp b o=false
 bn:badName o=false
 k:o.kind=1->arityT o.name≠0
 n:(o.qubits.length:Int)=nqP o
 ob:outB q o.qubits=false
 m:o.kind=2->0<=o.bit/\o.bit<b
 d:dupB o.qubits=false
theorem fault_iff{q b:Int}{o:COp}:faultP q b o=0↔NoFlt q b o:=by
 unfold faultP
 constructor
 ·intro h
  split at h;· simp at h
  split at h;· simp at h
  split at h;· simp at h
  split at h;· simp at h
  split at h;· simp at h
  split at h;· simp at h
  split at h;· simp at h
  rename_i e1 e2 e3 e4 e5 e6 e7
  exact⟨by simpa using e1,by simpa using e2,fun hk=>by omega,by omega,by simpa using e5,fun hk=>by omega,by simpa using e7⟩
 ·rintro⟨e1,e2,e3,e4,e5,e6,e7⟩
  rw[zW (by simp[e1]),zW (by simp[e2]),zW (fun h=>e3 h.1 h.2),zW (by omega),zW (by simp[e5]),zW (fun h=>by have:=e6 h.1;omega),zW (by simp[e7])]
theorem NoFlt.wo{q b:Int}{y:COp×AV}(h:NoFlt q b y.1):WO y:=by
 have h1:=h.n
 have h2:=arityT_le y.1.name
 have h3:1<=y.1.qubits.length/\y.1.qubits.length<=3:=by
  unfold nqP at h1
  split at h1
  ·have:=h.k (by assumption);omega
  ·omega
 refine⟨⟨by omega,?_⟩,dup_nodup h.d,fun e=>by rw[e]at h3;simp at h3⟩
 have h4:=h.bn
 unfold badName at h4
 simp at h4
 by_cases k:y.1.kind=2
 ·exact(h.m k).1
 ·have:=h4.2 k;omega
theorem NoFlt.ao{q b:Int}{y:COp×AV}(h:NoFlt q b y.1):AO1 y:=fun k=>by
 have h1:=h.n
 unfold nqP at h1
 rw[zX k]at h1
 exact⟨h1.symm,h.k k⟩
theorem CK.f0{q b:Int}{l:List (COp×AV)}(h:CK q b (l.map (·.1))){y:COp×AV}(hy:y∈l):NoFlt q b y.1:=fault_iff.1 (h.f _ (List.mem_map_of_mem hy))
theorem CK.wo{q b:Int}{l:List (COp×AV)}(h:CK q b (l.map (·.1))):∀y∈l,WO y:=fun _ hy=>(h.f0 hy).wo
theorem CK.ao{q b:Int}{l:List (COp×AV)}(h:CK q b (l.map (·.1))):∀y∈l,AO1 y:=fun _ hy=>(h.f0 hy).ao
structure FitOK (l:List (COp×AV)) (g:List Int×ByteArray) (j:Nat):Prop where
 e:∃y rest,l[j]?=some y/\g.1=(j:Int)::rest/\rest.length<=2/\y.1.kind=1/\(g.2=⟨#[]⟩\/(arityT y.1.name=1/\arityT g.2=1/\halvesT g.2=0/\∃k:Nat,k<l.length/\k≠j/\(k:Int)∈rest))
theorem turn_arity{n:ByteArray}(h:turnT n≠0):arityT n=1:=by
 unfold turnT at h
 split at h;· rename_i e;rw[e];decide +kernel
 split at h;· rename_i e;rw[e];decide +kernel
 split at h;· rename_i e;rw[e];decide +kernel
 split at h;· rename_i e;rw[e];decide +kernel
 split at h;· rename_i e;rw[e];decide +kernel
 exact absurd rfl h
theorem turning_arity{k:Int}:turningT k=⟨#[]⟩\/(arityT (turningT k)=1/\halvesT (turningT k)=0):=by
 unfold turningT
 split;· right;decide +kernel
 split;· right;decide +kernel
 split;· right;decide +kernel
 split;· right;decide +kernel
 split;· right;decide +kernel
 left;rfl
theorem fit_ok{l:List (COp×AV)}{r j:Nat}{g:List Int×ByteArray}(h:fitP l r j=some g):FitOK l g j:=by
 unfold fitP at h
 cases hj:l[j]? with
 |none=>rw[hj]at h;cases h
 |some y=>
  rw[hj]at h
  simp only at h
  split at h
  ·cases h
  rename_i k
  have k:y.1.kind=1:=by simpa using k
  match r with
  |0=>
   simp only at h
   split at h
   ·cases h;exact⟨y,[],hj,rfl,by simp,k,.inl rfl⟩
   ·cases h
  |r+1=>
   simp only at h
   cases hn:nbr l j y.1 with
   |none=>rw[hn]at h;cases h
   |some m=>
    obtain⟨o,xo,hm,hal,hjm,_⟩:=nbr_in hn
    have hml:m<l.length:=(zM.1 hm).1
    rw[hn]at h
    simp only[hm]at h
    match r with
    |0=>
     simp only at h
     split at h
     ·cases h;exact⟨y,[(m:Int)],hj,rfl,by simp,k,.inl rfl⟩
     ·cases h
    |1=>
     simp only at h
     split at h
     ·rename_i hc
      cases h
      refine⟨y,[(m:Int)],hj,rfl,by simp,k,?_⟩
      rcases turning_arity (k:=(turnT y.1.name+turnT o.name)%8) with e |⟨e1,e2⟩
      ·exact .inl e
      ·exact .inr ⟨turn_arity hc.2.1,e1,e2,m,hml,by omega,by simp⟩
     ·cases h
    |r+2=>
     simp only at h
     cases hp:nbr l m o with
     |none=>rw[hp]at h;cases h
     |some p=>
      obtain⟨c,xc,hc,_,hmp,_⟩:=nbr_in hp
      rw[hp]at h
      simp only[hc]at h
      split at h
      ·rename_i e
       have ea:arityT y.1.name=1:=by rw[e.1];decide +kernel
       split at h
       ·cases h;exact⟨y,[(m:Int),(p:Int)],hj,rfl,by simp,k,.inr ⟨ea,show arityT ⟨#[122]⟩=1 by decide +kernel,show halvesT ⟨#[122]⟩=0 by decide +kernel,m,hml,by omega,by simp⟩⟩
       split at h
       ·cases h;exact⟨y,[(m:Int),(p:Int)],hj,rfl,by simp,k,.inr ⟨ea,show arityT ⟨#[120]⟩=1 by decide +kernel,show halvesT ⟨#[120]⟩=0 by decide +kernel,m,hml,by omega,by simp⟩⟩
       ·cases h
      ·cases h
theorem place_ok{l:List (COp×AV)}{r:Nat}{g:List Int×ByteArray}:∀{n j:Nat},placeF l r n j=some g->∃j,fitP l r j=some g
 |0,_,h=>by cases h
 |n+1,j,h=>by
  simp only[placeF]at h
  split at h
  ·rename_i e;cases h;exact⟨_,e⟩
  ·exact place_ok h
theorem rule_okF{l:List (COp×AV)}{g:List Int×ByteArray}:∀{n r:Nat},ruleF l n r=some g->∃r j,fitP l r j=some g
 |0,_,h=>by cases h
 |n+1,r,h=>by
  simp only[ruleF]at h
  split at h
  ·rename_i e;cases h
   obtain⟨j,hj⟩:=place_ok e
   exact⟨r,j,hj⟩
  ·exact rule_okF h
theorem step_okF{l:List (COp×AV)}{g:List Int×ByteArray}(h:stepF l=some g):∃j,FitOK l g j:=by
 obtain⟨r,j,hf⟩:=rule_okF h
 exact⟨j,fit_ok hf⟩
theorem withG_mem{gone:List Int}{nm:ByteArray}:∀{l:List (COp×AV)}{i:Nat}{z:COp×AV},z∈withG gone nm l i->∃k y,l[k]?=some y/\(z=y\/(((i+k:Nat):Int)=gone.getD 0 0/\nm≠ByteArray.empty/\z=({ y.1 with name:=nm },y.2)))
 |[],_,_,h=>by cases h
 |y::l,i,z,h=>by
  simp only[withG]at h
  rcases List.mem_append.1 h with h |h
  ·refine⟨0,y,rfl,?_⟩
   unfold wOne at h
   split at h
   ·rename_i e
    simp only[List.mem_singleton]at h
    simp at e
    exact .inr ⟨by simpa using e.1,e.2,h⟩
   split at h
   ·cases h
   ·simp only[List.mem_singleton]at h;exact .inl h
  ·obtain⟨k,y',h1,h2⟩:=withG_mem h
   exact⟨k+1,y',by simpa using h1,by rw[show i+(k+1)=i+1+k by omega];exact h2⟩
theorem wOne_len{gone:List Int}{nm:ByteArray}{i:Nat}{y:COp×AV}:(wOne gone nm i y).length<=1:=by
 unfold wOne
 split
 ·simp
 split<;>simp
theorem withG_len{gone:List Int}{nm:ByteArray}:∀{l:List (COp×AV)}{i:Nat},(withG gone nm l i).length<=l.length
 |[],_=>by simp[withG]
 |y::l,i=>by
  have:=withG_len (gone:=gone) (nm:=nm) (l:=l) (i:=i+1)
  have:=wOne_len (gone:=gone) (nm:=nm) (i:=i) (y:=y)
  simp only[withG,List.length_append,List.length_cons];omega
theorem withG_lt{gone:List Int}{nm:ByteArray}:∀{l:List (COp×AV)}{i k:Nat},k<l.length->((i+k:Nat):Int)∈gone->(((i+k:Nat):Int)≠gone.getD 0 0\/nm=ByteArray.empty)->(withG gone nm l i).length<l.length
 |[],_,_,h,_,_=>by simp at h
 |y::l,i,0,h,hm,hc=>by
  have:=withG_len (gone:=gone) (nm:=nm) (l:=l) (i:=i+1)
  have:wOne gone nm i y=[]:=by
   unfold wOne
   rw[zW,zX (by rw[memB_mem];simpa using hm)]
   simp only[Nat.add_zero]at hc
   simp only[yC,beq_iff_eq,Bool.not_eq_true',decide_eq_false_iff_not,not_and,Decidable.not_not]
   intro e
   rcases hc with hc |hc
   ·exact absurd e hc
   ·exact hc
  simp only[withG,List.length_append,List.length_cons,this,List.length_nil];omega
 |y::l,i,k+1,h,hm,hc=>by
  have e:i+(k+1)=i+1+k:=by omega
  rw[e]at hm hc
  have:=withG_lt (l:=l) (i:=i+1) (k:=k) (by simpa using h) hm hc
  have:=wOne_len (gone:=gone) (nm:=nm) (i:=i) (y:=y)
  simp only[withG,List.length_append,List.length_cons];omega
theorem withG_halves{gone:List Int}{nm:ByteArray}(h0:nm=ByteArray.empty\/halvesT nm=0):∀{l:List (COp×AV)}{i:Nat},(((withG gone nm l i).map (·.1)).map halvesP).sum<=((l.map (·.1)).map halvesP).sum
 |[],_=>by simp[withG]
 |y::l,i=>by
  have ih:=withG_halves (gone:=gone) h0 (l:=l) (i:=i+1)
  have hy:=halvesP_le y.1
  have:(((wOne gone nm i y).map (·.1)).map halvesP).sum<=halvesP y.1:=by
   unfold wOne
   split
   ·rename_i e
    have hn:nm≠ByteArray.empty:=by simp at e;exact e.2
    have:halvesP { y.1 with name:=nm }=0:=by
     unfold halvesP
     split
     ·rcases h0 with h0 |h0
      ·exact absurd h0 hn
      ·exact h0
     ·rfl
    simp[this];omega
   split
   ·simp;omega
   ·simp
  simp only[withG,List.map_append,List.sum_append,List.map_cons,List.sum_cons];omega
theorem step_ck{q b:Int}{l:List (COp×AV)}{g:List Int×ByteArray}(hk:CK q b (l.map (·.1)))(h:stepF l=some g) :
  CK q b ((withG g.1 g.2 l 0).map (·.1))/\(withG g.1 g.2 l 0).length<l.length/\g.1≠[]/\g.1.length<=1000/\((∀y∈l,MOK y.1)->∀y∈withG g.1 g.2 l 0,MOK y.1):=by
 obtain⟨j,y,rest,hj,e1,hr,k1,hc⟩:=step_okF h
 have hjl:j<l.length:=(zM.1 hj).1
 have hn:=withG_len (gone:=g.1) (nm:=g.2) (l:=l) (i:=0)
 have hll:=hk.n
 rw[zZ]at hll
 refine⟨⟨hk.r,by rw[zZ];omega,fun o ho=>?_,?_⟩,?_,by rw[e1];simp,by rw[e1];simp;omega,fun hm z hz=>?_⟩
 ·obtain⟨z,hz,rfl⟩:=List.mem_map.1 ho
  obtain⟨p,w,hp,e |⟨e,hne,e3⟩⟩:=withG_mem hz
  ·subst e;exact hk.f _ (List.mem_map_of_mem (zP hp))
  ·have hw:=hk.f0 (zP hp)
   rw[e1]at e
   simp only[zG,zN]at e
   have:p=j:=by omega
   subst this
   rw[hj]at hp;cases hp
   rcases hc with hc |⟨a1,a2,a3,_⟩
   ·exact absurd hc hne
   subst e3
   refine fault_iff.2 ⟨hw.bo,?_,fun _=>by simp only;omega,?_,hw.ob,hw.m,hw.d⟩
   ·have:=hw.bn
    unfold badName at this ⊢
    simp[k1]at this ⊢
    exact this
   ·have:=hw.n
    unfold nqP at this ⊢
    simp only[k1,zV]at this ⊢
    omega
 ·have:=withG_halves (gone:=g.1) (nm:=g.2) (l:=l) (i:=0) (hc.imp id fun hc=>hc.2.2.1)
  have:=hk.h
  omega
 ·rcases hc with hc |⟨_,_,_,m,hm,hmj,hmr⟩
  ·exact withG_lt (k:=j) hjl (by rw[e1];simp) (.inr hc)
  ·refine withG_lt (k:=m) hm (by rw[e1,zG];exact List.mem_cons_of_mem _ hmr) (.inl ?_)
   rw[e1];simp;omega
 ·obtain⟨p,w,hp,e |⟨e,hne,e3⟩⟩:=withG_mem hz
  ·subst e;exact hm _ (zP hp)
  ·subst e3
   have:=hm _ (zP hp)
   exact this
end
section
open Go.Ab
attribute [-simp] eAlloc_d eStore_f
theorem step_lt{l:List (COp×AV)}{g:List Int×ByteArray}(h:stepF l=some g):(withG g.1 g.2 l 0).length<l.length:=by
 obtain⟨j,y,rest,hj,e1,hr,k1,hc⟩:=step_okF h
 have hjl:j<l.length:=(zM.1 hj).1
 rcases hc with hc |⟨_,_,_,m,hm,hmj,hmr⟩
 ·exact withG_lt (k:=j) hjl (by rw[e1];simp) (.inr hc)
 ·refine withG_lt (k:=m) hm (by rw[e1,zG];exact List.mem_cons_of_mem _ hmr) (.inl ?_)
  rw[e1];simp;omega
theorem stepC_of{l:List (COp×AV)}:stepC (l.map (·.1))=(stepF l).map fun g=>(withG g.1 g.2 l 0).map (·.1):=by
 unfold stepC
 rw[<-step_bare]
 cases stepF l with
 |none=>rfl
 |some g=>simp only[yB,withG_fst]
theorem stepC_lt{ops m:List COp}(h:stepC ops=some m):m.length<ops.length:=by
 rw[<-bare_fst (ops:=ops),stepC_of]at h
 cases hs:stepF (bare ops) with
 |none=>rw[hs]at h;cases h
 |some g=>
  rw[hs]at h
  simp only[yB,zQ]at h
  subst h
  have:=step_lt hs
  simpa using this
theorem stepC_ck{q b:Int}{ops m:List COp}(hk:CK q b ops)(hm:∀o∈ops,MOK o)(h:stepC ops=some m):CK q b m/\∀o∈m,MOK o:=by
 rw[<-bare_fst (ops:=ops),stepC_of]at h
 cases hs:stepF (bare ops) with
 |none=>rw[hs]at h;cases h
 |some g=>
  rw[hs]at h
  simp only[yB,zQ]at h
  subst h
  obtain⟨h1,_,_,_,h2⟩:=step_ck (l:=bare ops) (by rw[bare_fst];exact hk) hs
  refine⟨h1,fun o ho=>?_⟩
  obtain⟨y,hy,rfl⟩:=List.mem_map.1 ho
  refine h2 (fun z hz=>hm _ ?_) y hy
  obtain⟨o,ho,rfl⟩:=List.mem_map.1 hz
  exact ho
theorem runC_more:∀{n m:Nat}{ops:List COp},ops.length<=n->ops.length<=m->runC n ops=runC m ops
 |0,0,_,_,_=>rfl
 |0,m+1,ops,h1,h2=>by
  have:ops=[]:=List.length_eq_zero_iff.1 (by omega)
  subst this
  simp only[runC]
  split
  ·rfl
  ·rename_i e;have:=stepC_lt e;simp at this
 |n+1,0,ops,h1,h2=>by
  have:ops=[]:=List.length_eq_zero_iff.1 (by omega)
  subst this
  simp only[runC]
  split
  ·rfl
  ·rename_i e;have:=stepC_lt e;simp at this
 |n+1,m+1,ops,h1,h2=>by
  simp only[runC]
  split
  ·rfl
  ·rename_i e;have:=stepC_lt e;exact runC_more (by omega) (by omega)
def runT(ops:List COp):List COp:=runC ops.length ops
theorem runT_none{ops:List COp}(h:stepC ops=none):runT ops=ops:=by
 unfold runT
 cases hn:ops.length with
 |zero=>rfl
 |succ n=>simp only[runC,h]
theorem runT_some{ops m:List COp}(h:stepC ops=some m):runT ops=runT m:=by
 have:=stepC_lt h
 unfold runT
 cases hn:ops.length with
 |zero=>omega
 |succ n=>simp only[runC,h];exact runC_more (by omega) (zU _)
theorem runT_ck{q b:Int}:∀{n:Nat}{ops:List COp},ops.length<=n->CK q b ops->(∀o∈ops,MOK o)->CK q b (runT ops)/\(∀o∈runT ops,MOK o)/\stepC (runT ops)=none:=by
 intro n
 induction n with
 |zero=>
  intro ops hl hk hm
  cases hs:stepC ops with
  |none=>rw[runT_none hs];exact⟨hk,hm,hs⟩
  |some m=>have:=stepC_lt hs;omega
 |succ n ih=>
  intro ops hl hk hm
  cases hs:stepC ops with
  |none=>rw[runT_none hs];exact⟨hk,hm,hs⟩
  |some m=>
   rw[runT_some hs]
   have:=stepC_lt hs
   obtain⟨h1,h2⟩:=stepC_ck hk hm hs
   exact ih (by omega) h1 h2
theorem withG_ops{h:AH}{x y:AV}{l:List (COp×AV)}{gone:List Int}{nm:ByteArray}(hx:OpsL h x l)(hy:SlR encO 7 45 h y (withG gone nm l 0)):OpsL h y (withG gone nm l 0):=⟨hy,fun z hz=>by
 obtain⟨p,w,hp,e |⟨_,_,e⟩⟩:=withG_mem hz
 ·subst e;exact hx.qs _ (zP hp)
 ·subst e
  have:=hx.qs _ (zP hp)
  exact this⟩
theorem bldC0:aFill (fun i=>[(0,1),(1,1),(2,1)][i]?) ([Value.int .i64 0,.int .i64 0,.slice none 0 0].map .sc) []=some [I 0,I 0,nilS]:=rfl
theorem bldW{x:AV}(h:avCells x=some [x]):aFill (fun i=>[(0,1)][i]?) ([Value.slice none 0 0].map .sc) [(0,x)]=some [x]:=by
 simp only[aFill,h];rfl
def slShape(x:AV)(n:Nat):Prop:=x=nilS\/∃id,x=.sl id 0 n
theorem slL_shape{α:Type}{f:α->List AV}{sz:Nat}{ty:TypeId}{h:AH}{x:AV}{l:List α}(hs:SlL f sz ty h x l):slShape x l.length:=by
 rcases hs with⟨e,_⟩ |⟨id,e,_⟩
 ·exact .inl e
 ·exact .inr ⟨id,e⟩
section
variable {h:AH} {M:Nat->Prop} {R:AE->AH->Prop} {x:AV} {l:List (COp×AV)} {q b:Int}
theorem step2_ok(hx:OpsL h x l)(hs:slShape x l.length)(hk:CK q b (l.map (·.1)))
  (hR:∀y L h',Fr h h' (fun _=>False)->OpsL h' y L->slShape y L.length->(L.map (·.1)=(stepC (l.map (·.1))).getD (l.map (·.1)))->R (.ret (.tup [y,B (stepC (l.map (·.1))).isSome])) h'):ACalls Try.prog 23 [.agg [x]] h M R:=by
 have hl:=hk.n
 rw[zZ]at hl
 refine step_ok hx hk.wo hk.ao (by omega) fun h' f=>?_
 rw[step_F hk.wo hk.ao]
 have hc:=stepC_of (l:=l)
 cases hf:stepF l with
 |none=>
  rw[hf]at hc
  have:=hR x l h' f (hx.fr0 f) hs (by rw[hc];rfl)
  rw[hc]at this
  exact this
 |some g=>
  rw[hf]at hc
  intro y hy hi
  have:=hR y (withG g.1 g.2 l 0) h' f (withG_ops (hx.fr0 f) hy.toR) (slL_shape hy) (by rw[hc];rfl)
  rw[hc]at this
  exact this
theorem optStep_ok(hx:OpsL h x l)(hs:slShape x l.length)(hql:∀y∈l,y.1.qubits.length<=9223372036854775807)
  (hR1:∀h',Fr h h' (fun _=>False)->(checkP q b (l.map (·.1))).2≠0->R (.ret (.tup [.agg [I 0,I 0,nilS],B false,I (checkP q b (l.map (·.1))).2])) h')
  (hR2:∀h' xo yl,Fr h h' (fun _=>False)->CK q b (l.map (·.1))->FN h.next h' xo yl->yl.map (·.1)=(stepC (l.map (·.1))).getD (l.map (·.1))->R (.ret (.tup [.agg [I q,I b,xo],B (stepC (l.map (·.1))).isSome,I 0])) h') :
  ACalls Try.prog 10 [.agg [I q,I b,x]] h M R:=by
 apply F10.callsN
 unfold F10.n7
 refine box_var (cs:=[I q,I b,x]) (by simp only[List.all_cons,hx.tab.one.1];rfl) fun vc h1 f1 hn1 hoc=>?_
 simp only[eAlloc_d]
 refine⟨rfl,?_⟩
 have hor:=AH.alloc_new h1 (mkO (([.int .i64 0,.int .i64 0,.slice none 0 0]:List Value).map AV.sc) 3 24)
 have f2:Fr h1 (h1.alloc (mkO (([.int .i64 0,.int .i64 0,.slice none 0 0]:List Value).map AV.sc) 3 24)) (fun _=>False):=Fr.refl.alloc _
 have hcr:vc≠h1.next:=by have:=h1.lt _ _ hoc;omega
 have hvr:h.next<=h1.next:=f1.next
 generalize h1.alloc (mkO (([.int .i64 0,.int .i64 0,.slice none 0 0]:List Value).map AV.sc) 3 24)=h2 at *
 generalize h1.next=vr at *
 have hoc:=f2.ob0 hoc
 have f12:=f1.tr0 f2
 have hx2:=hx.fr0 f12
 unfold F10.n6
 refine var_ld hoc rfl fun _=>?_
 refine⟨fun _=>False,fun _ h=>h.elim,check_ok hx2 hql fun h3 f3=>?_⟩
 have f13:=f12.tr0 f3
 have hoc:=f3.ob0 hoc
 have hor:=f3.ob0 hor
 have hx3:=hx.fr0 f13
 simp only[res2,pExt_tup,zA,zB,cellK_some,F10.n5,pBin_neq,int_bne]
 by_cases he:(checkP q b (l.map (·.1))).2=0
 ·have hk:=check_iff.1 he
  simp only[zL he,zS,F10.n4,aIf_b,zD,zE,zC,zH]
  unfold F10.n2
  refine var_fld hoc rfl fun _=>?_
  refine⟨[x],bldW hx.tab.one.2,?_⟩
  refine⟨fun _=>False,fun _ h=>h.elim,step2_ok hx3 hs hk fun y L h4 f4 hy hsy hL=>?_⟩
  have f14:=f13.tr0 f4
  have hoc:=f4.ob0 hoc
  have hor:=f4.ob0 hor
  simp only[pExt_tup,zA,zB,cellK_some]
  unfold F10.n1
  refine var_ld hoc rfl fun _=>?_
  have hkL:CK q b (L.map (·.1)):=by
   rw[hL]
   cases hc:stepC (l.map (·.1)) with
   |none=>exact hk
   |some m=>
    rw[<-bare_fst (ops:=l.map (·.1)),stepC_of]at hc
    cases hs:stepF (bare (l.map (·.1))) with
    |none=>rw[hs]at hc;cases hc
    |some g=>
     rw[hs]at hc
     simp only[yB,zQ]at hc
     subst hc
     exact(step_ck (l:=bare (l.map (·.1))) (by rw[bare_fst];exact hk) hs).1
  have hnL:=hkL.n
  rw[zZ]at hnL
  refine⟨fun _=>False,fun _ h=>h.elim,copied_ok hy hsy hx.tab.one.1 (fun z hz=>⟨(hkL.wo z hz).2.2,(hkL.wo z hz).1.1⟩) (by omega) fun xo yl h5 f5 hn he=>?_⟩
  have f15:=f14.tr0 f5
  have hor:=f5.ob0 hor
  simp only[eStore_f,hor,avC_agg,stk_mk]
  refine⟨⟨.inr hvr,by simp only[List.all_cons,hn.o.toR.one.1];rfl,rfl,by simp⟩,?_⟩
  have o6:(h5.put vr 0 [I q,I b,xo]).obj vr=some (mkO [I q,I b,xo] 3 24):=by rw[put_row hor];rfl
  have f6:Fr h5 (h5.put vr 0 [I q,I b,xo]) (·=vr):=Fr.refl.put (.inl rfl)
  have fin:=hR2 _ xo yl (fr_set f15 hvr f6) hk ((⟨slL_ne hn.o hor (by decide) f6,hn.n,fun y hy=>⟨slL_ne (hn.qs y hy).1 hor (by decide) f6,(hn.qs y hy).2⟩,hn.pw⟩:FN h4.next _ xo yl).mono f14.next) (he.trans hL)
  simp only[retV,aResV,ag24,sz24]
  exact var_ld o6 rfl fun _=>fin
 ·simp only[zK he,zT,F10.n4,aIf_b,zD,zF,zC,zI]
  unfold F10.n3
  refine⟨_,bldC0,?_⟩
  simp only[eStore_f,hor,avC_agg,stk_mk]
  refine⟨⟨.inr hvr,rfl,rfl,by simp⟩,?_⟩
  have o6:(h3.put vr 0 [I 0,I 0,nilS]).obj vr=some (mkO [I 0,I 0,nilS] 3 24):=by rw[put_row hor];rfl
  have f6:Fr h3 (h3.put vr 0 [I 0,I 0,nilS]) (·=vr):=Fr.refl.put (.inl rfl)
  have fin:=hR1 _ (fr_set f13 hvr f6) he
  simp only[retV,aResV,ag24,sz24]
  exact var_ld o6 rfl fun _=>fin
theorem optRun_ok(hx:OpsL h x l)(hs:slShape x l.length)(hql:∀y∈l,y.1.qubits.length<=9223372036854775807)(hm:∀y∈l,MOK y.1)
  (hR1:∀h',Fr h h' (fun _=>False)->(checkP q b (l.map (·.1))).2≠0->R (.ret (.tup [.agg [I 0,I 0,nilS],I (checkP q b (l.map (·.1))).2])) h')
  (hR2:∀h' xo yl,Fr h h' (fun _=>False)->CK q b (l.map (·.1))->FN h.next h' xo yl->yl.map (·.1)=runT (l.map (·.1))->R (.ret (.tup [.agg [I q,I b,xo],I 0])) h') :
  ACalls Try.prog 15 [.agg [I q,I b,x]] h M R:=by
 apply F15.callsN
 unfold F15.n11
 refine box_var (cs:=[I q,I b,x]) (by simp only[List.all_cons,hx.tab.one.1];rfl) fun vc h1 f1 hn1 hoc=>?_
 simp only[eAlloc_d]
 refine⟨rfl,?_⟩
 have hor:=AH.alloc_new h1 (mkO (([.int .i64 0,.int .i64 0,.slice none 0 0]:List Value).map AV.sc) 3 24)
 have f2:Fr h1 (h1.alloc (mkO (([.int .i64 0,.int .i64 0,.slice none 0 0]:List Value).map AV.sc) 3 24)) (fun _=>False):=Fr.refl.alloc _
 have hcr:vc≠h1.next:=by have:=h1.lt _ _ hoc;omega
 have hvr:h.next<=h1.next:=f1.next
 generalize h1.alloc (mkO (([.int .i64 0,.int .i64 0,.slice none 0 0]:List Value).map AV.sc) 3 24)=h2 at *
 generalize h1.next=vr at *
 have hoc:=f2.ob0 hoc
 have f12:=f1.tr0 f2
 have hx2:=hx.fr0 f12
 unfold F15.n10
 refine var_ld hoc rfl fun _=>?_
 refine⟨fun _=>False,fun _ h=>h.elim,check_ok hx2 hql fun h3 f3=>?_⟩
 have f13:=f12.tr0 f3
 have hoc:=f3.ob0 hoc
 have hor:=f3.ob0 hor
 have hx3:=hx.fr0 f13
 simp only[res2,pExt_tup,zA,zB,cellK_some,F15.n9,pBin_neq,int_bne]
 by_cases he:(checkP q b (l.map (·.1))).2=0
 ·have hk:=check_iff.1 he
  have hm0:∀o∈l.map (·.1),MOK o:=fun o ho=>by
   obtain⟨y,hy,rfl⟩:=List.mem_map.1 ho
   exact hm y hy
  have nxt:∀{ops:List COp},CK q b ops->(∀o∈ops,MOK o)->CK q b ((stepC ops).getD ops)/\(∀o∈(stepC ops).getD ops,MOK o):=fun{ops} hk hm=>by
   cases hc:stepC ops with
   |none=>exact⟨hk,hm⟩
   |some m=>exact stepC_ck hk hm hc
  simp only[zL he,zS,F15.n8,aIf_b,zD,zE,zC,zH]
  unfold F15.n6
  refine var_fld hoc rfl fun _=>?_
  refine⟨[x],bldW hx.tab.one.2,?_⟩
  refine⟨fun _=>False,fun _ h=>h.elim,step2_ok hx3 hs hk fun y L h4 f4 hy hsy hL=>?_⟩
  have f14:=f13.tr0 f4
  have hoc:=f4.ob0 hoc
  have hor:=f4.ob0 hor
  simp only[pExt_tup,zA,zB,cellK_some]
  unfold F15.n5
  refine vLoop_of (ι:=Bool×List (COp×AV)) (fun s v h'=>∃xc,v=[.ptr vc 0,.ptr vr 0,xc,B s.1]/\Fr h h' (fun _=>False)/\h'.obj vc=some (mkO [I q,I b,x] 3 24)/\h'.obj vr=some (mkO (([.int .i64 0,.int .i64 0,.slice none 0 0]:List Value).map AV.sc) 3 24) /\
   OpsL h' xc s.2/\slShape xc s.2.length/\CK q b (s.2.map (·.1))/\(∀o∈s.2.map (·.1),MOK o)/\(if s.1=true then runT (s.2.map (·.1)) else s.2.map (·.1))=runT (l.map (·.1))) (fun s=>if s.1=true then s.2.length+1 else 0) ((stepC (l.map (·.1))).isSome,L)
   ⟨y,rfl,f14,hoc,hor,hy,hsy,by rw[hL];exact(nxt hk hm0).1,by rw[hL];exact(nxt hk hm0).2,?_⟩ ?_
  ·simp only[hL]
   cases hc:stepC (l.map (·.1)) with
   |none=>exact(runT_none hc).symm
   |some m=>exact(runT_some hc).symm
  rintro K ⟨ok,L⟩ v h5 ⟨xc,rfl,f5,hoc,hor,hxc,hsc,hkL,hmL,hT⟩ hK
  simp only at hxc hsc hkL hmL hT hK
  simp only[F15.g1_,zN,zO,F15.n4]
  cases ok with
  |true=>
   simp only[F15.n3,aIf_b,zD,zF,zC,zI]
   unfold F15.n2
   refine⟨[xc],bldW hxc.tab.one.2,?_⟩
   refine⟨fun _=>False,fun _ h=>h.elim,step2_ok hxc hsc hkL fun y L2 h6 f6 hy hsy hL2=>?_⟩
   simp only[pExt_tup,zA,zB,cellK_some]
   refine hK ((stepC (L.map (·.1))).isSome,L2) _ _ ?_ ⟨y,rfl,f5.tr0 f6,f6.ob0 hoc,f6.ob0 hor,hy,hsy,by rw[hL2];exact(nxt hkL hmL).1,by rw[hL2];exact(nxt hkL hmL).2,?_⟩
   ·simp only[zV]
    cases hc:stepC (L.map (·.1)) with
    |none=>simp
    |some m=>
     have:=stepC_lt hc
     rw[hc]at hL2
     have h2:=congrArg List.length hL2
     simp only[Option.getD_some,zZ]at h2 this
     simp;omega
   ·rw[<-hT]
    simp only[hL2,zV]
    cases hc:stepC (L.map (·.1)) with
    |none=>exact(runT_none hc).symm
    |some m=>exact(runT_some hc).symm
  |false=>
   simp only[zE,if_false]at hT
   simp only[F15.n3,aIf_b,zD,zE,zC,zH,zV,zN,zO]
   unfold F15.n1
   refine var_ld hoc rfl fun _=>?_
   have hnL:=hkL.n
   rw[zZ]at hnL
   refine⟨fun _=>False,fun _ h=>h.elim,copied_ok hxc hsc hx.tab.one.1 (fun z hz=>⟨(hkL.wo z hz).2.2,(hkL.wo z hz).1.1⟩) (by omega) fun xo yl h6 f6 hn he=>?_⟩
   have f16:=f5.tr0 f6
   have hor:=f6.ob0 hor
   simp only[eStore_f,hor,avC_agg,stk_mk]
   refine⟨⟨.inr hvr,by simp only[List.all_cons,hn.o.toR.one.1];rfl,rfl,by simp⟩,?_⟩
   have o7:(h6.put vr 0 [I q,I b,xo]).obj vr=some (mkO [I q,I b,xo] 3 24):=by rw[put_row hor];rfl
   have f7:Fr h6 (h6.put vr 0 [I q,I b,xo]) (·=vr):=Fr.refl.put (.inl rfl)
   have fin:=hR2 _ xo yl (fr_set f16 hvr f7) hk ((⟨slL_ne hn.o hor (by decide) f7,hn.n,fun y hy=>⟨slL_ne (hn.qs y hy).1 hor (by decide) f7,(hn.qs y hy).2⟩,hn.pw⟩:FN h5.next _ xo yl).mono f5.next) (he.trans hT)
   simp only[retV,aResV,ag24,sz24]
   exact var_ld o7 rfl fun _=>fin
 ·simp only[zK he,zT,F15.n8,aIf_b,zD,zF,zC,zI]
  unfold F15.n7
  refine⟨_,bldC0,?_⟩
  simp only[eStore_f,hor,avC_agg,stk_mk]
  refine⟨⟨.inr hvr,rfl,rfl,by simp⟩,?_⟩
  have o6:(h3.put vr 0 [I 0,I 0,nilS]).obj vr=some (mkO [I 0,I 0,nilS] 3 24):=by rw[put_row hor];rfl
  have f6:Fr h3 (h3.put vr 0 [I 0,I 0,nilS]) (·=vr):=Fr.refl.put (.inl rfl)
  have fin:=hR1 _ (fr_set f13 hvr f6) he
  simp only[retV,aResV,ag24,sz24]
  exact var_ld o6 rfl fun _=>fin
end
end
section
open Go.Ab
attribute [-simp] eAlloc_d eStore_f
section
variable {h:AH} {M:Nat->Prop} {R:AE->AH->Prop} {x:AV} {l:List (COp×AV)} {q b:Int}
theorem ops_set{h h':AH}{v:Nat}{cs:List AV}{xo:AV}{yl:List (COp×AV)}(ho:h.obj v=some (mkO cs 3 24))(f:Fr h h' (·=v))(hx:OpsL h xo yl):OpsL h' xo yl:=by
 have no:∀{sz:Nat}{ty:TypeId},ty≠24->∀id o,h.obj id=some o->(o.ro=false->o.ty=ty)->¬id=v:=fun ht id o hi hty e=>by
  subst e
  rw[ho]at hi;cases hi
  exact ht (hty rfl).symm
 exact⟨hx.tab.fr f (no (sz:=7) (by decide)),fun y hy=>(hx.qs y hy).fr f (no (sz:=1) (by decide))⟩
end
end
end Go.Proofs.Ytbdibjgoeeokoaa
