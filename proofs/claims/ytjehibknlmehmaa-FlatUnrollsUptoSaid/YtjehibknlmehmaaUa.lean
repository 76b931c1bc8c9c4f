/- A repeat written out changes no circuit, in plain Lean. No condition. -/
import Derived.Test.YtjehibknlmehmaaFb
import Derived.Test.YtjehibknlmehmaaGt
set_option maxRecDepth 100000
namespace Go.Proofs.Ytjehibknlmehmaa
section
open Go.Ab
attribute [-simp] eAlloc_d eStore_f
section
variable {h:AH} {M:Nat->Prop} {R:AE->AH->Prop}
theorem sameInts_ok{x z:AV}{l:List Int}(hx:SlR encI 1 3 h x l)(hz:SlR encI 1 3 h z l)(hl:l.length<=100000000)(hR:R (.ret (B true)) h):ACalls Try.prog 23 [x,z] h M R:=by
 apply F23.callsN
 simp only[F23.n13,F23.n12,hx.len.1,hx.len.2,hz.len.1,hz.len.2,zH,pBin_neq]
 have e0:((l.length:Int) != (l.length:Int))=false:=by simp
 simp only[e0,F23.n11,aIf_b,zE,zD,zC,zH,F23.n9]
 unfold F23.n8
 refine vLoop_of (ι:=Nat) (fun i v h'=>v=[x,z,I i]/\i<=l.length/\h'=h) (fun i=>l.length-i) 0 ⟨rfl,by omega,rfl⟩ ?_
 rintro K i v h' ⟨rfl,hi,rfl⟩ step
 simp only[F23.g1_,zN,zO,F23.n7,hx.len.1,hx.len.2,zH,pBin_lss]
 by_cases hlt:i<l.length
 ·have hli:(i:Int)<l.length:=by omega
  have g1:l[i]?=some l[i]:=zJ hlt
  have w1:IntKind.i64.wrap ((i:Int)+1)=((i+1:Nat):Int):=by rw[wrap_in (by omega) (by omega)];simp
  generalize l[i]=a at *
  simp only[zL hli,F23.n6,aIf_b,zD,zF,zC,zI,F23.n5]
  refine rng_one hx encI_len g1 rfl fun _=>?_
  refine rng_one hz encI_len g1 rfl fun _=>?_
  have e1:(a != a)=false:=by simp
  simp only[pBin_neq,e1,F23.n4,aIf_b,zE,zD,zC,zH,F23.n2,pBin_add,w1]
  exact step (i+1) _ _ (by omega) ⟨rfl,by omega,rfl⟩
 ·have hnl:¬(i:Int)<l.length:=by omega
  simp only[zK hnl,F23.n6,aIf_b,zE,zD,zC,zH,zV,F23.n1]
  simpa using hR
theorem eqlB{t:TypeId}{c:Bool}{x y:Bool}{K:AV->Prop}(hb:isBoolT Try.prog t=true):pBin Try.prog .neq t c (B x) (B y) K=K (B (!(x==y))):=by simp[pBin,hb]
theorem bool4:isBoolT Try.prog 4=true:=by kernel_rfl
theorem rng_atI{α:Type}{f:α->List AV}{sz:Nat}{ty:TypeId}{x:AV}{l:List α}{i:Nat}{y:α}{K:AV->Nat->Prop}(hl:SlR f sz ty h x l)(hf:∀y,(f y).length=sz)(hi:l[i]?=some y)(hK:∀id,x=.sl id 0 l.length->K (.agg (f y)) id) :
  pIxA (some (sz,none)) x (.sc (.int .i64 i)) fun t=>lLd (some true) (some sz) t h K:=by
 have hlt:i<l.length:=(zM.1 hi).1
 obtain⟨id,cells,ro,ty',rfl,ho,h1,h2,_⟩:=hl.at_ hf hi
 simp only[pIxA_sl,lLdn_f,ho,ldnk_mk,zG,zY]
 refine⟨⟨by omega,by omega⟩,h2,?_⟩
 rw[h1];exact hK _ rfl
theorem same_true{q b:Int}{xa xb:AV}{ya yb:List (COp×AV)}(ha:OpsL h xa ya)(hb:OpsL h xb yb)(he:ya.map (·.1)=yb.map (·.1))(hn:ya.length<=4096)(hg:∀y∈ya,OG y.1)
  (hR:∀h',Fr h h' (fun _=>False)->R (.ret (B true)) h'):ACalls Try.prog 11 [.agg [I q,I b,xa],.agg [I q,I b,xb]] h M R:=by
 apply F11.callsN
 have hlen:ya.length=yb.length:=by have:=congrArg List.length he;simpa using this
 have hxa:=ha.tab.one
 have hxb:=hb.tab.one
 unfold F11.n30
 refine box_var (cs:=[I q,I b,xa]) (by show(true&&(true&&(oneA xa&&true)))=true;rw[hxa.1];rfl) fun va h1 f1 _ oa=>?_
 refine box_var (cs:=[I q,I b,xb]) (by show(true&&(true&&(oneA xb&&true)))=true;rw[hxb.1];rfl) fun vb h2 f2 hvb ob=>?_
 have oa2:=f2.ob0 oa
 have f02:=f1.tr0 f2
 have ha2:=ha.fr0 f02
 have hb2:=hb.fr0 f02
 have e1:(q != q)=false:=by simp
 have e2:(b != b)=false:=by simp
 have e3:((ya.length:Int) != (yb.length:Int))=false:=by rw[hlen];simp
 simp only[F11.n29,pFld_ptr,lLd_f,oa2,ob,ldk_mk,zG,zA,zB,cellK_some,pBin_neq,e1,F11.n28,aIg_b,zT,zE,zD,zC,zI,e2,F11.n27,pPick_b,if_false,F11.n26,ha2.tab.len.1,ha2.tab.len.2,hb2.tab.len.1,hb2.tab.len.2,zH,e3,F11.n25,F11.n24,aIf_b,F11.n22]
 unfold F11.n21
 refine vLoop_of (ι:=Nat) (fun i v h'=>v=[.ptr va 0,.ptr vb 0,I i]/\i<=ya.length/\Fr h2 h' (fun _=>False)) (fun i=>ya.length-i) 0 ⟨rfl,by omega,Fr.refl⟩ ?_
 rintro K i v h' ⟨rfl,hi,f3⟩ step
 have oa3:=f3.ob0 oa2
 have ob3:=f3.ob0 ob
 have ha3:=ha2.fr0 f3
 have hb3:=hb2.fr0 f3
 simp only[F11.g1_,zN,zO,F11.n20,pFld_ptr,lLd_f,oa3,ldk_mk,zG,zA,zB,cellK_some,ha3.tab.len.1,ha3.tab.len.2,zH,pBin_lss]
 by_cases hlt:i<ya.length
 ·have hli:(i:Int)<ya.length:=by omega
  have hltb:i<yb.length:=by omega
  have g1:ya[i]?=some ya[i]:=zJ hlt
  have g2:yb[i]?=some yb[i]:=zJ hltb
  have hop:ya[i].1=yb[i].1:=by
   have:=congrArg (fun l:List COp=>l[i]?) he
   simp only[List.getElem?_map,g1,g2,yB]at this
   exact Option.some.inj this
  have hqa:=ha3.qs _ (List.getElem_mem hlt)
  have hqb:=hb3.qs _ (List.getElem_mem hltb)
  have hog:=hg _ (List.getElem_mem hlt)
  generalize ya[i]=y at *
  generalize yb[i]=z at *
  obtain⟨o,x1⟩:=y
  obtain⟨o',x2⟩:=z
  simp only at hop
  subst hop
  have w1:IntKind.i64.wrap ((i:Int)+1)=((i+1:Nat):Int):=by rw[wrap_in (by omega) (by omega)];simp
  simp only[zL hli,F11.n19,aIf_b,zD,zF,zC,zI,F11.n18]
  obtain⟨idb,exb,oidb⟩:∃idb,xb=.sl idb 0 yb.length/\h'.obj idb≠none:=by
   obtain⟨id,cells,ro,ty',h1,h2,_⟩:=hb3.tab.at_ encO_len g2
   exact⟨id,h1,by rw[h2];simp⟩
  have follow:∀vx vy h4,Fr h' h4 (fun _=>False)->h4.obj vx=some (mkO (encO (o,x1)) 7 49)->h4.obj vy=some (mkO (encO (o,x2)) 7 49)->F11.n17 (fun id=>M id\/h.next<=id) (retV Try.prog [.tmp 4] R) K (fun(i:Nat) (vs:List AV) (h:AH)=>if i=0 then F11.n1 (fun id=>M id\/h.next<=id) (retV Try.prog [.tmp 4] R) (retV Try.prog [.tmp 4] R) (fun _ _ _=>False) (fun v h=>R (.pan v) h) h else False) (fun v h=>R (.pan v) h) (.ptr va 0) (.ptr vb 0) (I i) (.ptr vx 0) (.ptr vy 0) h4:=fun vx vy h4 f4 ox oy=>by
   have c1:(o.kind != o.kind)=false:=by simp
   have c2:(!decide (o.name=o.name))=false:=by simp
   have c3:(o.bit != o.bit)=false:=by simp
   have c4:(!(o.cond==o.cond))=false:=by simp
   have c5:(o.mask != o.mask)=false:=by simp
   have c6:(o.value != o.value)=false:=by simp
   have sneq:∀{t:TypeId}{c:Bool}{a b:ByteArray}{K:AV->Prop},pBin Try.prog .neq t c (Sb a) (Sb b) K=K (B (!decide (a=b))):=fun{t c a b K}=>rfl
   simp only[F11.n17,pFld_ptr,lLd_f,ox,oy,ldk_mk,zG,encO,zA,zB,cellK_some,pBin_neq,c1,F11.n16,aIg_b,zT,zE,zD,zC,zI,sneq,decide_true,zS,F11.n15,pPick_b,if_false,F11.n14]
   refine⟨fun _=>False,fun _ h=>h.elim,sameInts_ok (hqa.fr0 f4) (hqb.fr0 f4) hog.1 ?_⟩
   simp only[pUn_not,zS,F11.n13,pPick_b,zE,if_false,F11.n12,aIg_b,zT,zD,zC,zI,pFld_ptr,lLd_f,ox,oy,ldk_mk,zG,encO,zA,zB,cellK_some,pBin_neq,c3,F11.n11,F11.n10,eqlB bool4,c4,F11.n9,F11.n8,pBin_neqU,c5,F11.n7,F11.n6,c6,F11.n5,F11.n4,aIf_b,zH,F11.n2,pBin_add,w1]
   exact step (i+1) _ h4 (by omega) ⟨rfl,by omega,f3.tr0 f4⟩
  refine⟨fun i=>if i=6 then vb else idb,fun i _=>by show h'.obj (if i=6 then vb else idb)≠none;split;rw[ob3];simp;exact oidb,?_⟩
  simp only[pFld_ptr,lLd_f,oa3,ob3,ldk_mk,zG,zA,zB,cellK_some]
  refine rng_at ha3.tab encO_len g1 fun _=>?_
  refine⟨by simp,?_⟩
  refine rng_atI hb3.tab encO_len g2 fun id hid=>?_
  have eid:id=idb:=by rw[exb]at hid;cases hid;rfl
  subst eid
  refine⟨by simp,?_⟩
  have hvbl:=h'.lt _ _ ob3
  have hidl:id<h'.next:=by
   rcases ho:h'.obj id with _ |p
   ·exact absurd ho oidb
   ·exact h'.lt _ _ ho
  have nx:h.next<=h'.next:=zR f02.next f3.next
  have z7:([Value.int .i64 0,.string ⟨#[]⟩,.slice none 0 0,.int .i64 0,.bool false,.int .u64 0,.int .u64 0].map AV.sc).length=7:=rfl
  have first:=AH.alloc_new h' (mkO ([Value.int .i64 0,.string ⟨#[]⟩,.slice none 0 0,.int .i64 0,.bool false,.int .u64 0,.int .u64 0].map AV.sc) 7 49)
  have fa:Fr h' (h'.alloc (mkO ([Value.int .i64 0,.string ⟨#[]⟩,.slice none 0 0,.int .i64 0,.bool false,.int .u64 0,.int .u64 0].map AV.sc) 7 49)) (fun _=>False):=Fr.refl.alloc _
  have one1:=encO_one (y:=(o,x1)) hqa.one.1
  have one2:=encO_one (y:=(o,x2)) hqb.one.1
  have put7:∀{hh:AH}{v:Nat}{cs:List AV},hh.obj v=some (mkO ([Value.int .i64 0,.string ⟨#[]⟩,.slice none 0 0,.int .i64 0,.bool false,.int .u64 0,.int .u64 0].map AV.sc) 7 49)->cs.length=7->(hh.put v 0 cs).obj v=some (mkO cs 7 49):=fun{hh v cs} ho hc=>by
   rw[put_row ho]
   congr 1
   simp only[mkO]
   congr 1
   exact aFill_one (by rw[hc];rfl)
  generalize hh1:h'.alloc (mkO ([Value.int .i64 0,.string ⟨#[]⟩,.slice none 0 0,.int .i64 0,.bool false,.int .u64 0,.int .u64 0].map AV.sc) 7 49)=h1' at *
  have second:=AH.alloc_new h1' (mkO ([Value.int .i64 0,.string ⟨#[]⟩,.slice none 0 0,.int .i64 0,.bool false,.int .u64 0,.int .u64 0].map AV.sc) 7 49)
  have fb:Fr h1' (h1'.alloc (mkO ([Value.int .i64 0,.string ⟨#[]⟩,.slice none 0 0,.int .i64 0,.bool false,.int .u64 0,.int .u64 0].map AV.sc) 7 49)) (fun _=>False):=Fr.refl.alloc _
  have first2:=fb.ob0 first
  have n01:h'.next<h1'.next:=h1'.lt _ _ first
  simp only[eAlloc_d,hh1]
  generalize h1'.alloc (mkO ([Value.int .i64 0,.string ⟨#[]⟩,.slice none 0 0,.int .i64 0,.bool false,.int .u64 0,.int .u64 0].map AV.sc) 7 49)=h2' at *
  have fab:=fa.tr0 fb
  refine⟨⟨rfl,rfl,?_⟩,rfl,rfl,?_⟩
  ·simp only[eStore_f,first2,avC_agg,stk_mk]
   refine⟨⟨⟨.inr nx,fun i _=>by show h'.next≠(if i=6 then vb else id);split<;>omega⟩,one1,rfl,by simp⟩,?_⟩
   have g3:Fr h2' (h2'.put h'.next 0 (encO (o,x1))) (·=h'.next):=Fr.refl.put (.inl rfl)
   have p3:=put7 first2 (encO_len (o,x1))
   have f3':Fr h' (h2'.put h'.next 0 (encO (o,x1))) (fun _=>False):=fab.put (.inr (zU _))
   generalize h2'.put h'.next 0 (encO (o,x1))=h3' at *
   have s3:=g3.obj second (by omega)
   simp only[s3,stk_mk]
   refine⟨⟨.inr (by omega),one2,rfl,by simp⟩,?_⟩
   have g4:Fr h3' (h3'.put h1'.next 0 (encO (o,x2))) (·=h1'.next):=Fr.refl.put (.inl rfl)
   exact follow _ _ _ (f3'.put (.inr (by omega))) (g4.obj p3 (by omega)) (put7 s3 (encO_len (o,x2)))
  ·simp only[eStore_f,second,avC_agg,stk_mk]
   refine⟨⟨⟨.inr (by omega),fun i _=>by show h1'.next≠(if i=6 then vb else id);split<;>omega⟩,one1,rfl,by simp⟩,?_⟩
   have g3:Fr h2' (h2'.put h1'.next 0 (encO (o,x1))) (·=h1'.next):=Fr.refl.put (.inl rfl)
   have p3:=put7 second (encO_len (o,x1))
   have f3':Fr h' (h2'.put h1'.next 0 (encO (o,x1))) (fun _=>False):=fab.put (.inr (by omega))
   generalize h2'.put h1'.next 0 (encO (o,x1))=h3' at *
   have s3:=g3.obj first2 (by omega)
   simp only[s3,stk_mk]
   refine⟨⟨.inr nx,one2,rfl,by simp⟩,?_⟩
   have g4:Fr h3' (h3'.put h'.next 0 (encO (o,x2))) (·=h'.next):=Fr.refl.put (.inl rfl)
   exact follow _ _ _ (f3'.put (.inr (zU _))) (g4.obj p3 (by omega)) (put7 s3 (encO_len (o,x2)))
 ·have hnl:¬(i:Int)<ya.length:=by omega
  simp only[zK hnl,F11.n19,aIf_b,zE,zD,zC,zH,zV,F11.n1]
  simpa using hR h' (f02.tr0 f3)
end
end
section
open Go.Ab
attribute [-simp] eAlloc_d eStore_f
abbrev tq:ByteArray:=⟨#[113]⟩
abbrev t1:ByteArray:=⟨#[113,117,98,105,116,115,32,113,32,49,59,32,98,105,116,115,32,99,32,50,59,32,98,105,116,115,32,100,32,49,59,32,109,101,97,115,117,114,101,32,113,91,48,93,32,100,91,48,93,59,32,105,102,32,100,32,49,32,123,32,120,32,113,91,48,93,59,32,125]⟩
abbrev t2:ByteArray:=⟨#[103,97,116,101,32,103,32,120,32,123,32,103,32,120,59,32,125]⟩
abbrev t3:ByteArray:=⟨#[113,117,98,105,116,115,32,113,32,49,59,32,114,101,112,101,97,116,32,53,48,48,48,32,123,32,120,32,113,91,48,93,59,32,125]⟩
abbrev rs1:List Row:=[⟨sQubits,⟨#[113]⟩,[],1,0,0⟩,⟨sBits,⟨#[99]⟩,[],2,0,12⟩,⟨sBits,⟨#[100]⟩,[],1,0,22⟩,⟨sMeasure,ByteArray.empty,[⟨⟨#[113]⟩,0⟩,⟨⟨#[100]⟩,0⟩],0,0,32⟩,⟨sIf,⟨#[100]⟩,[],1,1,51⟩,⟨sUse,⟨#[120]⟩,[⟨⟨#[113]⟩,0⟩],0,0,60⟩]
abbrev rs2:List Row:=[⟨sGate,⟨#[103]⟩,[⟨⟨#[120]⟩,-1⟩],0,1,0⟩,⟨sUse,⟨#[103]⟩,[⟨⟨#[120]⟩,-1⟩],0,0,11⟩]
abbrev rs3:List Row:=[⟨sQubits,⟨#[113]⟩,[],1,0,0⟩,⟨sRepeat,ByteArray.empty,[],5000,1,12⟩,⟨sUse,⟨#[120]⟩,[⟨⟨#[113]⟩,0⟩],0,0,26⟩]
theorem parse1:parseP t1=.ok rs1:=by
 rw[<-parseF_eq]
 kernel_rfl
theorem parse2:parseP t2=.ok rs2:=by
 rw[<-parseF_eq]
 kernel_rfl
theorem parse3:parseP t3=.ok rs3:=by
 rw[<-parseF_eq]
 kernel_rfl
theorem repP_put{f:OL->Except Int OL}{o:COp}{pl:Int}(hf:∀l,f l=putP l o pl):∀(n:Nat)(l:OL),l.length<=4096->4096<l.length+n->repP f n l=.error pl
 |0,l,h1,h2=>by omega
 |n+1,l,h1,h2=>by
  simp only[repP,hf,putP]
  by_cases k:l.length=4096
  ·rw[zX k]
  ·rw[zW k]
   simp only[List.length_append,List.length_singleton]
   rw[zW (by omega)]
   exact repP_put hf n _ (by simp;omega) (by simp;omega)
end
section
open Go.Ab
def countF:Nat->List Dfn->List Row->Int->Int
 |0,_,_,n=>n
 |_+1,_,[],n=>n
 |m+1,ds,r::rest,n=>countF m ds (rest.drop r.rows.toNat) (min (n+countK ds r (countF m ds (rest.take r.rows.toNat) 0)) 4097)
theorem countF_eq:∀(m:Nat)(ds:List Dfn)(rows:List Row)(n:Int),rows.length<=m->countF m ds rows n=countP ds rows n
 |0,ds,rows,n,h=>by
  have:rows=[]:=List.length_eq_zero_iff.1 (by omega)
  subst this
  rw[countP_nil];rfl
 |m+1,ds,[],n,h=>by rw[countP_nil];rfl
 |m+1,ds,r::rest,n,h=>by
  rw[List.length_cons]at h
  rw[countP_cons]
  simp only[countF]
  rw[countF_eq m _ _ _ (by simp only[yA,List.length_drop];omega),countF_eq m _ _ _ (by simp only[yA,List.length_drop];omega)]
def lookF:Nat->Nat->Option Nat->Nat->List Row->Bk->Except (Int×Int) Bk
 |0,_,_,_,_,bk=>.ok bk
 |_+1,_,_,_,[],bk=>.ok bk
 |m+1,deep,own,i,r::rest,bk=>
  if formP r rest.length deep own.isSome≠0 then .error (r.place,formP r rest.length deep own.isSome)
  else match rowP bk own i r with
   |.error e=>.error (r.place,e)
   |.ok bk1=>match lookF m (deep+1) (if r.kind=sGate then some bk.ds.length else own) (i+1) (rest.take r.rows.toNat) bk1 with
    |.error e=>.error e
    |.ok bk2=>lookF m deep own (i+1+r.rows.toNat) (rest.drop r.rows.toNat) (if r.kind=sGate then{ bk2 with ds:=setWhole bk2.ds bk.ds.length (countF m bk2.ds (rest.take r.rows.toNat) 0) } else bk2)
theorem lookF_eq:∀(m:Nat)(deep:Nat)(own:Option Nat)(i:Nat)(rows:List Row)(bk:Bk),rows.length<=m->lookF m deep own i rows bk=lookP deep own i rows bk
 |0,deep,own,i,rows,bk,h=>by
  have:rows=[]:=List.length_eq_zero_iff.1 (by omega)
  subst this
  rw[lookP_nil];rfl
 |m+1,deep,own,i,[],bk,h=>by rw[lookP_nil];rfl
 |m+1,deep,own,i,r::rest,bk,h=>by
  rw[List.length_cons]at h
  rw[lookP_cons]
  simp only[lookF]
  split
  ·rfl
  ·cases rowP bk own i r with
   |error e=>rfl
   |ok bk1=>
    simp only
    rw[lookF_eq m _ _ _ _ _ (by rw[yA];omega)]
    cases lookP (deep+1) (if r.kind=sGate then some bk.ds.length else own) (i+1) (rest.take r.rows.toNat) bk1 with
    |error e=>rfl
    |ok bk2=>
     simp only
     rw[lookF_eq m _ _ _ _ _ (by rw[List.length_drop];omega),countF_eq m _ _ _ (by rw[yA];omega)]
def doF (bk : Bk) (L : List Row) : Nat → Wsh → List Row → OL → Except Int OL
  | 0, _, _, l => .ok l
  | _ + 1, _, [], l => .ok l
  | m + 1, w, r :: rest, l => bindP (doF bk L m w (rest.drop r.rows.toNat))
    (if r.kind = sRepeat then repP (doF bk L m w (rest.take r.rows.toNat)) r.num.toNat l
     else if r.kind = sIf then (match regOf bk.bs r.name with
      | none => .ok l
      | some g => match wishIn w g r.num with
        | none => .ok l
        | some w' => doF bk L m w' (rest.take r.rows.toNat) l)
     else oneP bk L w r [] l)
theorem doF_eq{bk:Bk}{L:List Row}:∀(m:Nat)(w:Wsh)(rows:List Row)(l:OL),rows.length<=m->doF bk L m w rows l=doP bk L w rows l
 |0,w,rows,l,h=>by
  have:rows=[]:=List.length_eq_zero_iff.1 (by omega)
  subst this
  rw[doP_nil];rfl
 |m+1,w,[],l,h=>by rw[doP_nil];rfl
 |m+1,w,r::rest,l,h=>by
  rw[List.length_cons]at h
  rw[doP_cons]
  simp only[doF]
  have e1:doF bk L m w (rest.drop r.rows.toNat)=doP bk L w (rest.drop r.rows.toNat):=funext fun l=>doF_eq m w _ l (by rw[List.length_drop];omega)
  have e2:∀w',doF bk L m w' (rest.take r.rows.toNat)=doP bk L w' (rest.take r.rows.toNat):=fun w'=>funext fun l=>doF_eq m w' _ l (by rw[yA];omega)
  rw[e1,e2]
  congr 1
  unfold oneP
  by_cases k1:r.kind=sRepeat
  ·rw[zX k1,zX k1]
  ·by_cases k2:r.kind=sIf
   ·simp only[zW k1,zX k2]
    cases regOf bk.bs r.name with
    |none=>rfl
    |some g=>
     simp only
     cases wishIn w g r.num with
     |none=>rfl
     |some w'=>simp only;rw[e2]
   ·simp only[zW k1,zW k2]
theorem look1:∃bk,lookP 0 none 0 rs1 bk0=.ok bk/\totalR bk.qs=1/\totalR bk.bs=3/\doP bk rs1 ⟨false,0,0⟩ rs1 []=.ok [(⟨2,ByteArray.empty,[0],2,false,0,0⟩,32),(⟨1,⟨#[120]⟩,[0],0,true,4,4⟩,60)]:=by
 refine⟨⟨[⟨⟨#[113]⟩,0,1⟩],[⟨⟨#[99]⟩,0,2⟩,⟨⟨#[100]⟩,2,1⟩],[]⟩,?_,by decide,by decide,?_⟩
 ·rw[<-lookF_eq 6 _ _ _ _ _ (by decide)]
  kernel_rfl
 ·rw[<-doF_eq 6 _ _ _ (by decide)]
  kernel_rfl
theorem flat1:flatP rs1=⟨1,3,[⟨2,ByteArray.empty,[0],2,false,0,0⟩,⟨1,⟨#[120]⟩,[0],0,true,4,4⟩],0,0⟩:=by
 obtain⟨bk,h1,h2,h3,h4⟩:=look1
 unfold flatP
 rw[show(⟨[],[],[]⟩:Bk)=bk0 from rfl,h1]
 simp only[h4,h2,h3,List.map_cons,List.map_nil]
 have hc:checkP 1 3 [⟨2,ByteArray.empty,[0],2,false,0,0⟩,⟨1,⟨#[120]⟩,[0],0,true,4,4⟩]=(0,0):=by kernel_rfl
 rw[hc]
 rfl
theorem flat2:flatP rs2=⟨0,0,[],11,114⟩:=by
 have h1:lookP 0 none 0 rs2 bk0=.error (11,114):=by
  rw[<-lookF_eq 6 _ _ _ _ _ (by decide)]
  kernel_rfl
 unfold flatP
 rw[show(⟨[],[],[]⟩:Bk)=bk0 from rfl,h1]
theorem flat3:flatP rs3=⟨0,0,[],26,115⟩:=by
 have h1:lookP 0 none 0 rs3 bk0=.ok ⟨[⟨⟨#[113]⟩,0,1⟩],[],[]⟩:=by
  rw[<-lookF_eq 6 _ _ _ _ _ (by decide)]
  kernel_rfl
 have h2:doP ⟨[⟨⟨#[113]⟩,0,1⟩],[],[]⟩ rs3 ⟨false,0,0⟩ rs3 []=.error 26:=by
  have hf:∀l,doF ⟨[⟨⟨#[113]⟩,0,1⟩],[],[]⟩ rs3 1 ⟨false,0,0⟩ [⟨sUse,⟨#[120]⟩,[⟨⟨#[113]⟩,0⟩],0,0,26⟩] l=putP l ⟨1,⟨#[120]⟩,[0],0,false,0,0⟩ 26:=fun l=>by
   have e:doF ⟨[⟨⟨#[113]⟩,0,1⟩],[],[]⟩ rs3 1 ⟨false,0,0⟩ [⟨sUse,⟨#[120]⟩,[⟨⟨#[113]⟩,0⟩],0,0,26⟩] l=bindP (fun l=>.ok l) (putP l ⟨1,⟨#[120]⟩,[0],0,false,0,0⟩ 26):=by kernel_rfl
   rw[e]
   cases putP l ⟨1,⟨#[120]⟩,[0],0,false,0,0⟩ 26<;>rfl
  have hr:=repP_put hf 5000 [] (by decide) (by decide)
  rw[<-doF_eq 3 _ _ _ (by decide)]
  have e3:doF ⟨[⟨⟨#[113]⟩,0,1⟩],[],[]⟩ rs3 3 ⟨false,0,0⟩ rs3 []=bindP (doF ⟨[⟨⟨#[113]⟩,0,1⟩],[],[]⟩ rs3 1 ⟨false,0,0⟩ []) (repP (doF ⟨[⟨⟨#[113]⟩,0,1⟩],[],[]⟩ rs3 1 ⟨false,0,0⟩ [⟨sUse,⟨#[120]⟩,[⟨⟨#[113]⟩,0⟩],0,0,26⟩]) 5000 []):=by
   have h1:doF ⟨[⟨⟨#[113]⟩,0,1⟩],[],[]⟩ rs3 3 ⟨false,0,0⟩ rs3 []=doF ⟨[⟨⟨#[113]⟩,0,1⟩],[],[]⟩ rs3 2 ⟨false,0,0⟩ [⟨sRepeat,ByteArray.empty,[],5000,1,12⟩,⟨sUse,⟨#[120]⟩,[⟨⟨#[113]⟩,0⟩],0,0,26⟩] []:=rfl
   rw[h1]
   conv=>lhs;unfold doF
   rw[zX rfl]
   rfl
  rw[e3,hr]
  rfl
 unfold flatP
 rw[show(⟨[],[],[]⟩:Bk)=bk0 from rfl,h1]
 simp only[h2]
end
section
open Go.Ab
attribute [-simp] eAlloc_d eStore_f
theorem F12_ret{h:AH}{R:AE->AH->Prop}{v:Nat}{q b:Int}{xo:AV}{a e:Int}(ho:h.obj v=some (mkO [I q,I b,xo] 3 27))(hR:R (.ret (.tup [.agg [I q,I b,xo],I a,I e])) h):retV Try.prog [.cell 2 27,.tmp 3,.tmp 4] R [.ptr v 0,I a,I e] h:=F10_ret ho hR
def Small(rows:List Row):Prop:=rows.length<=100000000/\∀r∈rows,r.args.length<=100000000/\r.num<=9223372036854775807
theorem RowsAt.rt{h:AH}{x:AV}{rows:List Row}(a:RowsAt h x rows)(s:Small rows):∃rs,RT h x rs/\rs.map (·.1)=rows/\∀y∈rs,y.1.num<=9223372036854775807:=by
 obtain⟨l,h1,h2,h3⟩:=a
 have hm:∀y∈l,y.1∈rows:=fun y hy=>by rw[<-h2];exact List.mem_map_of_mem hy
 refine⟨l,⟨h1.toR,fun y hy=>⟨(h3 y hy).toR,(s.2 _ (hm y hy)).1⟩,?_⟩,h2,fun y hy=>(s.2 _ (hm y hy)).2⟩
 have:=congrArg List.length h2
 have:=s.1
 simp only[zZ]at *;omega
section
variable {h:AH} {M:Nat->Prop} {R:AE->AH->Prop}
theorem read_ok{s:ByteArray}{rows:List Row}(hp:parseP s=.ok rows)(hs:Small rows)(hR:∀xo yl h',FlatA h' (flatP rows) xo yl->Fr h h' (fun _=>False)->R (.ret (.tup [.agg [I (flatP rows).q,I (flatP rows).b,xo],I (flatP rows).at_,I (flatP rows).err])) h'):ACalls Try.prog 12 [Sb s] h M R:=by
 apply F12.callsN
 unfold F12.n6
 have hv:=AH.alloc_new h (mkO ([Value.int .i64 0,.int .i64 0,.slice none 0 0].map AV.sc) 3 27)
 rw[eAlloc_d]
 refine⟨rfl,?_⟩
 have f1:Fr h (h.alloc (mkO ([Value.int .i64 0,.int .i64 0,.slice none 0 0].map AV.sc) 3 27)) (fun _=>False):=Fr.refl.alloc _
 generalize h.alloc (mkO ([Value.int .i64 0,.int .i64 0,.slice none 0 0].map AV.sc) 3 27)=h1 at *
 obtain⟨v,hvn⟩:∃v,v=h.next:=⟨_,rfl⟩
 rw[<-hvn]at hv ⊢
 have ov:h1.obj v=some (mkO [I 0,I 0,nilS] 3 27):=hv
 have putv:∀{h':AH}{x y z:AV},h'.obj v=some (mkO [I 0,I 0,nilS] 3 27)->(h'.put v 0 [x,y,z]).obj v=some (mkO [x,y,z] 3 27):=fun ho=>by rw[put_mk ho];rfl
 have fput:∀{h':AH}{cs:List AV},Fr h h' (fun _=>False)->Fr h (h'.put v 0 cs) fun _=>False:=fun hf=>hf.put (.inr (by omega))
 unfold F12.n5
 refine⟨fun _=>False,fun _ h=>h.elim,parse_ok ?_⟩
 unfold ParseR
 rw[hp]
 ·intro x h2 hx _ f2
  have f02:=f1.tr0 f2
  have ov2:=f2.ob0 ov
  obtain⟨rs,rt,hrs,hnum⟩:=hx.rt hs
  have h00:((0:Int) != 0)=false:=rfl
  simp only[pExt_tup,zA,zB,cellK_some,F12.n4,pBin_neq,h00,F12.n3,aIf_b,zE,zD,zC,zH,F12.n1]
  refine⟨fun _=>False,fun _ h=>h.elim,flat_ok rt hnum fun xo yl h3 hf f3=>?_⟩
  rw[hrs]at hf ⊢
  have ov3:=f3.ob0 ov2
  have hxo:=hf.o.tab.one
  simp only[pExt_tup,zA,zB,cellK_some,eStore_f,ov3,avC_agg,stk_mk]
  refine⟨⟨.inr (by omega),by show(true&&(true&&(oneA xo&&true)))=true;rw[hxo.1];rfl,rfl,by simp⟩,?_⟩
  have fv:Fr h3 (h3.put v 0 [I (flatP rows).q,I (flatP rows).b,xo]) (·=v):=Fr.refl.put (.inl rfl)
  refine F12_ret (putv ov3) (hR xo yl _ ⟨⟨hf.o.tab.fr fv fun id o ho ht e=>?_,fun y hy=>(hf.o.qs y hy).fr fv fun id o ho ht e=>?_⟩,hf.e,hf.g,hf.n⟩ (fput (f02.tr0 f3)))
  ·subst e;rw[ov3]at ho;cases ho;exact absurd (ht rfl) (show(27:Nat)≠49 by decide)
  ·subst e;rw[ov3]at ho;cases ho;exact absurd (ht rfl) (show(27:Nat)≠3 by decide)
theorem small1:Small rs1:=⟨by decide,by decide⟩
theorem small2:Small rs2:=⟨by decide,by decide⟩
theorem small3:Small rs3:=⟨by decide,by decide⟩
theorem alive_ok(hR:∀h',Fr h h' (fun _=>False)->R (.ret (B true)) h'):ACalls Try.prog 7 [] h M R:=by
 apply F7.callsN
 unfold F7.n33 F7.n32
 refine⟨fun _=>False,fun _ h=>h.elim,read_ok parse1 small1 fun xo1 yl1 h1 fa1 f1=>?_⟩
 rw[flat1]at fa1 ⊢
 have hxo1:=fa1.o.tab.one
 simp only[pExt_tup,zA,zB,cellK_some]
 refine new_var (cs:=[I 1,I 3,xo1]) (by show(true&&(true&&(oneA xo1&&true)))=true;rw[hxo1.1];rfl) rfl rfl rfl (fun id hid=>.inr (zR f1.next hid)) fun v1 h2 f2 _ o1=>?_
 have f02:=f1.tr0 f2
 unfold F7.n31
 refine⟨fun _=>False,fun _ h=>h.elim,read_ok parse2 small2 fun xo2 yl2 h3 fa2 f3=>?_⟩
 rw[flat2]at fa2 ⊢
 have hxo2:=fa2.o.tab.one
 have f03:=f02.tr0 f3
 simp only[pExt_tup,zA,zB,cellK_some]
 refine new_var (cs:=[I 0,I 0,xo2]) (by show(true&&(true&&(oneA xo2&&true)))=true;rw[hxo2.1];rfl) rfl rfl rfl (fun id hid=>.inr (zR f03.next hid)) fun v2 h4 f4 _ o2=>?_
 have f04:=f03.tr0 f4
 unfold F7.n30
 refine⟨fun _=>False,fun _ h=>h.elim,read_ok parse3 small3 fun xo3 yl3 h5 fa3 f5=>?_⟩
 rw[flat3]at fa3 ⊢
 have hxo3:=fa3.o.tab.one
 have f05:=f04.tr0 f5
 simp only[pExt_tup,zA,zB,cellK_some]
 refine new_var (cs:=[I 0,I 0,xo3]) (by show(true&&(true&&(oneA xo3&&true)))=true;rw[hxo3.1];rfl) rfl rfl rfl (fun id hid=>.inr (zR f05.next hid)) fun v3 h6 f6 _ o3=>?_
 have f06:=f05.tr0 f6
 have f26:=((f3.tr0 f4).tr0 f5).tr0 f6
 have o16:=f26.ob0 o1
 have fo:=fa1.o.fr0 (f2.tr0 f26)
 obtain⟨ya,yb,hy⟩:∃ya yb,yl1=[ya,yb]:=by
  have:=congrArg List.length fa1.e
  simp only[zZ,List.length_cons,List.length_nil]at this
  match yl1,this with
  |[a,b],_=>exact⟨a,b,rfl⟩
 subst hy
 have he:=fa1.e
 simp only[List.map_cons,List.map_nil,List.cons.injEq,zI]at he
 obtain⟨hea,heb⟩:=he
 have ha:fo.tab=fo.tab:=rfl
 have fin:=hR h6 f06
 have ga:([ya,yb]:List (COp×AV))[0]?=some ya:=rfl
 have gb:([ya,yb]:List (COp×AV))[1]?=some yb:=rfl
 simp only[F7.n29,F7.n28,aIg_b,zT,zE,zD,zC,zI,pBin_neq,show((0:Int) != 0)=false from rfl,F7.n27,pPick_b,if_false,F7.n26,F7.n25,F7.n24,show((114:Int) != 114)=false from rfl,F7.n23,F7.n22,show((11:Int) != 11)=false from rfl,F7.n21,F7.n20,show((115:Int) != 115)=false from rfl,F7.n19,F7.n18,show((26:Int) != 26)=false from rfl,F7.n17,F7.n16,aIf_b,zH,F7.n14,pFld_ptr,lLd_f,o16,ldk_mk,zG,zA,zB,cellK_some,pBin_eql,show((1:Int)==1)=true from rfl,F7.n13,zS,zF,show((3:Int)==3)=true from rfl,F7.n12,zV,F7.n11,fo.tab.len.1,fo.tab.len.2,List.length_cons,List.length_nil,show(((0+1+1:Nat):Int)==2)=true from rfl,F7.n10,F7.n9]
 refine rng_fld (i:=0) (k:=3) fo.tab encO_len ga (by omega) rfl fun _=>?_
 rw[hea]
 simp only[pBin_eql,show((2:Int)==2)=true from rfl,F7.n8,pPick_b,zV,F7.n7,aIg_b,zS,zD,zF,zC,zI,pFld_ptr,lLd_f,o16,ldk_mk,zG,zA,zB,cellK_some]
 refine rng_fld (i:=1) (k:=4) fo.tab encO_len gb (by omega) rfl fun _=>?_
 rw[heb]
 have eqlU:∀{t:TypeId}{c:Bool}{x y:Int}{K:AV->Prop},pBin Try.prog .eql t c (U x) (U y) K=K (B (x==y)):=fun{t c x y K}=>by simp[pBin]
 simp only[F7.n6,pPick_b,zV,F7.n5,aIg_b,zS,zD,zF,zC,zI,pFld_ptr,lLd_f,o16,ldk_mk,zG,zA,zB,cellK_some]
 refine rng_fld (i:=1) (k:=5) fo.tab encO_len gb (by omega) rfl fun _=>?_
 rw[heb]
 simp only[eqlU,show((4:Int)==4)=true from rfl,F7.n4,pPick_b,zV,F7.n3,aIg_b,zS,zD,zF,zC,zI,pFld_ptr,lLd_f,o16,ldk_mk,zG,zA,zB,cellK_some]
 refine rng_fld (i:=1) (k:=6) fo.tab encO_len gb (by omega) rfl fun _=>?_
 rw[heb]
 simp only[eqlU,show((4:Int)==4)=true from rfl,F7.n2,pPick_b,zV,F7.n1]
 simpa using fin
end
end
section
open Go.Ab
attribute [-simp] eAlloc_d eStore_f
def AllS(S:Int->Prop)(l:OL):Prop:=∀x∈l,S x.2
def PL(S:Int->Prop):Except Int OL->Prop
 |.error e=>S e
 |.ok l=>AllS S l
section
variable {S:Int->Prop}
theorem putP_PL{l:OL}{o:COp}{pl:Int}(hp:S pl)(hl:AllS S l):PL S (putP l o pl):=by
 unfold putP
 split
 ·exact hp
 ·intro x hx
  rcases List.mem_append.1 hx with hx |hx
  ·exact hl x hx
  ·have:=List.mem_singleton.1 hx
   subst this;exact hp
theorem repP_PL{f:OL->Except Int OL}(hf:∀l,AllS S l->PL S (f l)):∀(n:Nat)(l:OL),AllS S l->PL S (repP f n l)
 |0,l,hl=>hl
 |n+1,l,hl=>by
  have h1:=hf l hl
  unfold repP
  split
  ·rename_i e he;rw[he]at h1;exact h1
  ·rename_i l1 he
   rw[he]at h1
   split
   ·exact h1
   ·exact repP_PL hf n l1 h1
theorem bindP_PL{f:OL->Except Int OL}{x:Except Int OL}(hx:PL S x)(hf:∀l,AllS S l->PL S (f l)):PL S (bindP f x):=by
 cases x with
 |error e=>exact hx
 |ok l=>exact hf l hx
theorem bodyP_PL{bk:Bk}{L:List Row}{w:Wsh}{pl:Int}(hp:S pl)(k:Nat):∀(n:Nat){env:List (ByteArray×Int)}{rows:List Row}{l:OL}(_:rows.length=n)(_:AllS S l),PL S (bodyP bk L k env w pl rows l):=by
 induction k using Nat.strongRecOn with
 |ind k ihk=>
 intro n
 induction n using Nat.strongRecOn with
 |ind n ih=>
 intro env rows l hn hl
 cases rows with
 |nil=>rw[bodyP_nil];exact hl
 |cons r rest=>
  rw[List.length_cons]at hn
  rw[bodyP_cons]
  refine bindP_PL ?_ fun l' hl'=>ih _ (by rw[List.length_drop];omega) rfl hl'
  split
  ·exact repP_PL (fun a ha=>ih _ (by rw[yA];omega) rfl ha) _ _ hl
  ·unfold applyP
   split
   ·exact putP_PL hp hl
   ·split
    ·exact hl
    ·split
     ·exact hl
     ·split
      ·rename_i hi
       exact ihk _ hi _ rfl hl
      ·exact hl
theorem applyP_PL{bk:Bk}{L:List Row}{w:Wsh}{pl:Int}{k:Nat}{nm:ByteArray}{qs:List Int}{l:OL}(hp:S pl)(hl:AllS S l):PL S (applyP bk L k nm qs w pl l):=by
 unfold applyP
 split
 ·exact putP_PL hp hl
 ·split
  ·exact hl
  ·split
   ·exact hl
   ·split
    ·exact bodyP_PL hp _ _ rfl hl
    ·exact hl
theorem doP_PL{bk:Bk}{L:List Row}(n:Nat):∀{w:Wsh}{rows:List Row}{l:OL}(_:rows.length=n)(_:∀r∈rows,S r.place)(_:AllS S l),PL S (doP bk L w rows l):=by
 induction n using Nat.strongRecOn with
 |ind n ih=>
 intro w rows l hn hr hl
 cases rows with
 |nil=>rw[doP_nil];exact hl
 |cons r rest=>
  rw[List.length_cons]at hn
  rw[doP_cons]
  have hp:=hr r (List.mem_cons_self ..)
  refine bindP_PL ?_ fun l' hl'=>ih _ (by rw[List.length_drop];omega) rfl (fun x hx=>hr x (List.mem_cons_of_mem _ (List.mem_of_mem_drop hx))) hl'
  unfold oneP
  split
  ·exact repP_PL (fun a ha=>ih _ (by rw[yA];omega) rfl (fun x hx=>hr x (List.mem_cons_of_mem _ (List.mem_of_mem_take hx))) ha) _ _ hl
  split
  ·split
   ·exact hl
   ·split
    ·exact hl
    ·exact ih _ (by rw[yA];omega) rfl (fun x hx=>hr x (List.mem_cons_of_mem _ (List.mem_of_mem_take hx))) hl
  split
  ·exact applyP_PL hp hl
  split
  ·split
   ·exact putP_PL hp hl
   ·exact hl
  split
  ·exact putP_PL hp hl
  exact hl
theorem lookP_pl(n:Nat):∀{deep:Nat}{own:Option Nat}{i:Nat}{rows:List Row}{bk:Bk}{x:Int×Int}(_:rows.length=n)(_:∀r∈rows,S r.place)(_:lookP deep own i rows bk=.error x),S x.1:=by
 induction n using Nat.strongRecOn with
 |ind n ih=>
 intro deep own i rows bk x hn hr h
 cases rows with
 |nil=>rw[lookP_nil]at h;cases h
 |cons r rest=>
  rw[List.length_cons]at hn
  rw[lookP_cons]at h
  have hp:=hr r (List.mem_cons_self ..)
  split at h
  ·cases h;exact hp
  split at h
  ·cases h;exact hp
  split at h
  ·rename_i e he;cases h
   exact ih _ (by rw[yA];omega) rfl (fun x hx=>hr x (List.mem_cons_of_mem _ (List.mem_of_mem_take hx))) he
  ·exact ih _ (by rw[List.length_drop];omega) rfl (fun x hx=>hr x (List.mem_cons_of_mem _ (List.mem_of_mem_drop hx))) h
end
theorem checkGo_0{q b:Int}:∀{l:List COp}{i:Nat}{n:Int},(checkGo q b l i n).2=0->checkGo q b l i n=(0,0)
 |[],_,_,_=>rfl
 |o::l,i,n,h=>by
  unfold checkGo at h ⊢
  split at h
  ·rename_i h0;exact absurd h h0
  ·rename_i h0
   rw[zW h0]
   split at h
   ·exact absurd h (show(116:Int)≠0 by decide)
   ·rename_i h1
    rw[zW h1]
    exact checkGo_0 h
theorem checkP_0{q b:Int}{l:List COp}(h:(checkP q b l).2=0):checkP q b l=(0,0):=by
 unfold checkP at h ⊢
 split at h
 ·exact absurd h (show(2:Int)≠0 by decide)
 ·rename_i h0
  rw[zW h0]
  split at h
  ·exact absurd h (show(115:Int)≠0 by decide)
  ·rename_i h1
   rw[zW h1]
   exact checkGo_0 h
def FR(S:Int->Prop)(f:FlatR):Prop:=(f.err≠0/\f.q=0/\f.b=0/\f.ops=[]/\S f.at_)\/(f.err=0/\f.at_=0/\checkP f.q f.b f.ops=(0,0))
theorem flatP_FR{S:Int->Prop}(h0:S 0){L:List Row}(hr:∀r∈L,S r.place):FR S (flatP L):=by
 unfold flatP
 split
 ·rename_i pl e he
  exact .inl ⟨lookP_err _ rfl he,rfl,rfl,rfl,lookP_pl _ rfl hr he⟩
 ·rename_i bk hb
  have hd:=doP_PL (S:=S) (bk:=bk) (L:=L) (w:=⟨false,0,0⟩) L.length (rows:=L) (l:=[]) rfl hr (fun _ h=>by cases h)
  split
  ·rename_i pl he
   rw[he]at hd
   exact .inl ⟨show(115:Int)≠0 by decide,rfl,rfl,rfl,hd⟩
  ·rename_i l he
   rw[he]at hd
   split
   ·rename_i h2
    refine .inl ⟨h2,rfl,rfl,rfl,?_⟩
    split
    ·rename_i x hx;exact hd x (zP hx)
    ·exact h0
   ·rename_i h2
    exact .inr ⟨rfl,rfl,checkP_0 (by simpa using h2)⟩
theorem RowsG.places{L:List Tok}{p p':Nat}{l:List Row}(h:RowsG L p p' l):∀r∈l,∃t∈L,r.place=t.at_:=by
 induction h with
 |nil _=>intro r hr;cases hr
 |cons a1 a2 a3 a4 a5 a6 a7 a8 ih=>
  intro r hr
  rcases List.mem_cons.1 hr with rfl |hr
  ·exact⟨_,zP a2,a3⟩
  ·exact ih r hr
end
section
open Go.Ab
def sd(d:Dfn):Dfn:={ d with from_:=0,to_:=0 }
structure SB (a b:Bk):Prop where
 q:a.qs=b.qs
 bb:a.bs=b.bs
 d:a.ds.map sd=b.ds.map sd
theorem SB.refl{a:Bk}:SB a a:=⟨rfl,rfl,rfl⟩
theorem SB.symm{a b:Bk}(h:SB a b):SB b a:=⟨h.q.symm,h.bb.symm,h.d.symm⟩
theorem SB.trans{a b c:Bk}(h:SB a b)(k:SB b c):SB a c:=⟨h.q.trans k.q,h.bb.trans k.bb,h.d.trans k.d⟩
theorem sd_find{l:List Dfn}{n:ByteArray}:dfnOf (l.map sd) n=(dfnOf l n).map sd:=by
 unfold dfnOf
 rw[List.find?_map];rfl
section
variable {l m:List Dfn}
theorem sdOf(h:l.map sd=m.map sd)(n:ByteArray):(dfnOf l n).map sd=(dfnOf m n).map sd:=by rw[<-sd_find,<-sd_find,h]
theorem sdAt(h:l.map sd=m.map sd)(k:Nat):(l[k]?).map sd=(m[k]?).map sd:=by rw[<-List.getElem?_map,<-List.getElem?_map,h]
theorem sdLen(h:l.map sd=m.map sd):l.length=m.length:=by have:=congrArg List.length h;simpa using this
theorem sdAll{α:Type}{f:Dfn->α}(hf:∀d,f (sd d)=f d){x y:Option Dfn}(h:x.map sd=y.map sd):x.map f=y.map f:=by
 cases x with
 |none=>cases y with
  |none=>rfl
  |some b=>cases h
 |some a=>cases y with
  |none=>cases h
  |some b=>
   have h':sd a=sd b:=by simpa using h
   simp only[yB,zQ]
   rw[<-hf a,<-hf b,h']
theorem modify_sd(h:l.map sd=m.map sd){f:Dfn->Dfn}(hf:∀d,sd (f d)=sd (f (sd d)))(k:Nat):(l.modify k f).map sd=(m.modify k f).map sd:=by
 apply List.ext_getElem?
 intro i
 have h1:=sdAt h i
 simp only[List.getElem?_map,List.getElem?_modify]
 by_cases e:k=i
 ·simp only[e,zV]
  cases hx:l[i]? with
  |none=>rw[hx]at h1;cases hy:m[i]? with
   |none=>rfl
   |some b=>rw[hy]at h1;cases h1
  |some a=>rw[hx]at h1;cases hy:m[i]? with
   |none=>rw[hy]at h1;cases h1
   |some b=>
    rw[hy]at h1
    have h':sd a=sd b:=by simpa using h1
    show some (sd (f a))=some (sd (f b))
    rw[hf a,hf b,h']
 ·simpa[e] using h1
end
def RE{ε:Type}(x y:Except ε Bk):Prop:=match x,y with |.error e,.error e'=>e=e' |.ok a,.ok b=>SB a b |_,_=>False
section
variable {a b:Bk}
theorem takenB_SB(s:SB a b)(n:ByteArray):takenB a n=takenB b n:=by
 have h:=sdAll (f:=fun _=>()) (fun _=>rfl) (sdOf s.d n)
 have h2:(dfnOf a.ds n).isSome=(dfnOf b.ds n).isSome:=by
  cases hx:dfnOf a.ds n<;>cases hy:dfnOf b.ds n<;>rw[hx,hy]at h<;>simp_all
 unfold takenB
 rw[s.q,s.bb,h2]
theorem wants_SB(s:SB a b)(n:ByteArray):wants a n=wants b n:=by
 have h:=sdAll (f:=fun d=>(d.whole,d.params.length,d.depth)) (fun _=>rfl) (sdOf s.d n)
 unfold wants
 cases hx:dfnOf a.ds n<;>cases hy:dfnOf b.ds n<;>rw[hx,hy]at h<;>simp_all
theorem ownD_SB(s:SB a b)(own:Option Nat):(ownD a own).map sd=(ownD b own).map sd:=by
 unfold ownD
 cases own with
 |none=>rfl
 |some k=>exact sdAt s.d k
theorem loopB_SB(s:SB a b)(own:Option Nat)(n:ByteArray):loopB a own n=loopB b own n:=by
 have h:=sdAll (f:=fun d=>d.name) (fun _=>rfl) (ownD_SB s own)
 unfold loopB
 cases hx:ownD a own<;>cases hy:ownD b own<;>rw[hx,hy]at h<;>simp_all
theorem useArg_SB(s:SB a b)(own:Option Nat):useArg a (ownD a own)=useArg b (ownD b own):=by
 have h:=sdAll (f:=fun d=>d.params) (fun _=>rfl) (ownD_SB s own)
 funext x
 unfold useArg
 cases hx:ownD a own<;>cases hy:ownD b own<;>rw[hx,hy]at h<;>simp_all [s.q]
theorem deepen_SB(s:SB a b)(own:Option Nat)(n:Int):SB (deepen a own n) (deepen b own n):=by
 unfold deepen
 cases own with
 |none=>exact s
 |some k=>exact⟨s.q,s.bb,modify_sd s.d (fun _=>rfl) k⟩
theorem declP_SB(s:SB a b)(l:List Reg)(m:Int)(r:Row):declP a l m r=declP b l m r:=by unfold declP;rw[takenB_SB s]
theorem rowP_SB(s:SB a b)(own:Option Nat)(i j:Int)(r:Row):RE (rowP a own i r) (rowP b own j r):=by
 have er:∀(e:Int),RE (errP e a) (errP e b):=fun e=>by
  unfold errP
  split
  ·rfl
  ·exact s
 unfold rowP
 split
 ·rw[declP_SB s,s.q]
  cases declP b b.qs 64 r with
  |error e=>rfl
  |ok l=>exact⟨rfl,s.bb,s.d⟩
 split
 ·rw[declP_SB s,s.bb]
  cases declP b b.bs 64 r with
  |error e=>rfl
  |ok l=>exact⟨s.q,rfl,s.d⟩
 split
 ·unfold defP
  rw[takenB_SB s]
  split
  ·rfl
  split
  ·rfl
  split
  ·rfl
  split
  ·rfl
  ·exact⟨s.q,s.bb,by simp only[List.map_append,s.d];rfl⟩
 split
 ·split
  ·rfl
  ·exact s
 split
 ·unfold ifP
  rw[s.bb]
  split
  ·rfl
  ·split
   ·rfl
   ·exact s
 split
 ·unfold useP
  rw[loopB_SB s,wants_SB s,useArg_SB s]
  split
  ·rfl
  split
  ·rfl
  split
  ·rfl
  split
  ·rfl
  split
  ·rfl
  split
  ·rfl
  ·exact deepen_SB s own _
 split
 ·unfold measP
  rw[s.q,s.bb]
  split
  ·split
   ·rfl
   ·exact er _
  ·rfl
 split
 ·unfold resetP
  rw[s.q]
  split
  ·exact er _
  ·rfl
 exact s
theorem countP_SB{l m:List Dfn}(h:l.map sd=m.map sd)(k:Nat):∀{rows:List Row}(_:rows.length=k)(n:Int),countP l rows n=countP m rows n:=by
 induction k using Nat.strongRecOn with
 |ind k ih=>
 intro rows hk n
 cases rows with
 |nil=>rw[countP_nil,countP_nil]
 |cons r rest=>
  rw[List.length_cons]at hk
  have hc:∀c,countK l r c=countK m r c:=fun c=>by
   have h1:=sdAll (f:=fun d=>d.ops) (fun _=>rfl) (sdOf h r.name)
   unfold countK
   cases hx:dfnOf l r.name<;>cases hy:dfnOf m r.name<;>rw[hx,hy]at h1<;>simp_all
  rw[countP_cons,countP_cons,ih _ (by rw[yA];omega) rfl 0,hc,ih _ (by rw[List.length_drop];omega) rfl]
theorem lookP_SB(n:Nat):∀{deep:Nat}{own:Option Nat}{i j:Nat}{rows:List Row}{a b:Bk}(_:rows.length=n)(_:SB a b),RE (lookP deep own i rows a) (lookP deep own j rows b):=by
 induction n using Nat.strongRecOn with
 |ind n ih=>
 intro deep own i j rows a b hn s
 cases rows with
 |nil=>rw[lookP_nil,lookP_nil];exact s
 |cons r rest=>
  rw[List.length_cons]at hn
  rw[lookP_cons,lookP_cons]
  split
  ·rfl
  have h1:=rowP_SB s own i j r
  revert h1
  cases rowP a own i r with
  |error e=>cases rowP b own j r with
   |error e'=>intro h1;show(_,_)=(_,_);rw[show e=e' from h1]
   |ok b1=>intro h1;exact h1.elim
  |ok a1=>cases rowP b own j r with
   |error e'=>intro h1;exact h1.elim
   |ok b1=>
    intro h1
    have h1:SB a1 b1:=h1
    simp only[sdLen s.d]
    have h2:=ih _ (show(rest.take r.rows.toNat).length<n by rw[yA];omega) (deep:=deep+1) (own:=if r.kind=sGate then some b.ds.length else own) (i:=i+1) (j:=j+1) rfl h1
    revert h2
    cases lookP (deep+1) (if r.kind=sGate then some b.ds.length else own) (i+1) (rest.take r.rows.toNat) a1 with
    |error e=>cases lookP (deep+1) (if r.kind=sGate then some b.ds.length else own) (j+1) (rest.take r.rows.toNat) b1 with
     |error e'=>intro h2;exact h2
     |ok b2=>intro h2;exact h2.elim
    |ok a2=>cases lookP (deep+1) (if r.kind=sGate then some b.ds.length else own) (j+1) (rest.take r.rows.toNat) b1 with
     |error e'=>intro h2;exact h2.elim
     |ok b2=>
      intro h2
      have h2:SB a2 b2:=h2
      refine ih _ (by rw[List.length_drop];omega) rfl ?_
      by_cases k:r.kind=sGate
      ·rw[zX k,zX k,countP_SB h2.d _ rfl]
       exact⟨h2.q,h2.bb,modify_sd h2.d (fun _=>rfl) _⟩
      ·rw[zW k,zW k];exact h2
end
end
section
open Go.Ab
theorem declK_no{k:ByteArray}(h:declK k=false):k≠sQubits/\k≠sBits/\k≠sGate:=by
 unfold declK at h
 simp only[Bool.or_eq_false_iff,decide_eq_false_iff_not]at h
 exact⟨h.1.1,h.1.2,h.2⟩
theorem errP_bk{e:Int}{bk b:Bk}(h:errP e bk=.ok b):b=bk:=by
 unfold errP at h
 split at h
 ·cases h
 ·cases h;rfl
theorem rowP_in{bk b:Bk}{own:Option Nat}{i:Int}{r:Row}(hd:declK r.kind=false)(h:rowP bk own i r=.ok b):b=bk\/∃n,b=deepen bk own n:=by
 obtain⟨k1,k2,k3⟩:=declK_no hd
 unfold rowP at h
 rw[zW k1,zW k2,zW k3]at h
 split at h
 ·split at h
  ·cases h
  ·cases h;exact .inl rfl
 split at h
 ·unfold ifP at h
  split at h
  ·cases h
  ·split at h
   ·cases h
   ·cases h;exact .inl rfl
 split at h
 ·unfold useP at h
  split at h
  ·cases h
  split at h
  ·cases h
  split at h
  ·cases h
  split at h
  ·cases h
  split at h
  ·cases h
  split at h
  ·cases h
  ·cases h;exact .inr ⟨_,rfl⟩
 split at h
 ·unfold measP at h
  split at h
  ·split at h
   ·cases h
   ·exact .inl (errP_bk h)
  ·cases h
 split at h
 ·unfold resetP at h
  split at h
  ·exact .inl (errP_bk h)
  ·cases h
 cases h;exact .inl rfl
theorem deepen_none{bk:Bk}{n:Int}:deepen bk none n=bk:=rfl
theorem modify_map{α:Type}{g:Dfn->α}{f:Dfn->Dfn}(hg:∀d,g (f d)=g d){l:List Dfn}{k:Nat}:(l.modify k f).map g=l.map g:=by
 apply List.ext_getElem?
 intro i
 simp only[List.getElem?_map,List.getElem?_modify]
 cases l[i]? with
 |none=>rfl
 |some d=>
  show some (g (if k=i then f d else d))=some (g d)
  split
  ·rw[hg]
  ·rfl
theorem lookP_pos{L:List Row}(n:Nat):∀{deep:Nat}{own:Option Nat}{i:Nat}{rows:List Row}{bk b:Bk}(_:rows.length=n)(_:0<deep)(_:lookP deep own i rows bk=.ok b),b.ds.map (bodyOf L)=bk.ds.map (bodyOf L)/\(own=none->b=bk):=by
 induction n using Nat.strongRecOn with
 |ind n ih=>
 intro deep own i rows bk b hn hd h
 cases rows with
 |nil=>rw[lookP_nil]at h;cases h;exact⟨rfl,fun _=>rfl⟩
 |cons r rest=>
  rw[List.length_cons]at hn
  rw[lookP_cons]at h
  split at h
  ·cases h
  rename_i hf
  obtain⟨_,_,_,_,_,f6,_⟩:=formP_0 (Classical.not_not.1 hf)
  have hk:=f6 (by omega)
  have k3:=(declK_no hk).2.2
  split at h
  ·cases h
  rename_i b1 h1
  split at h
  ·cases h
  rename_i b2 h2
  rw[zW k3]at h h2
  have e1:b1.ds.map (bodyOf L)=bk.ds.map (bodyOf L)/\(own=none->b1=bk):=by
   rcases rowP_in hk h1 with rfl |⟨m,rfl⟩
   ·exact⟨rfl,fun _=>rfl⟩
   ·refine⟨?_,fun ho=>by subst ho;rfl⟩
    unfold deepen
    cases own with
    |none=>rfl
    |some k=>exact modify_map (g:=bodyOf L) (f:=fun d=>{ d with depth:=max d.depth m }) (fun _=>rfl)
  obtain⟨c1,c2⟩:=ih _ (by rw[yA];omega) rfl (by omega) h2
  obtain⟨d1,d2⟩:=ih _ (by rw[List.length_drop];omega) rfl hd h
  exact⟨d1.trans (c1.trans e1.1),fun ho=>(d2 ho).trans ((c2 ho).trans (e1.2 ho))⟩
def gB(rows:List Row):List (List Row):=
 match rows with
 |[]=>[]
 |r::rest=>(if r.kind=sGate then[rest.take r.rows.toNat] else[])++gB (rest.drop r.rows.toNat)
termination_by rows.length
decreasing_by all_goals (simp only[List.length_drop,List.length_cons];omega)
theorem gB_nil:gB []=[]:=by rw[gB]
theorem gB_cons{r:Row}{rest:List Row}:gB (r::rest)=(if r.kind=sGate then[rest.take r.rows.toNat] else[])++gB (rest.drop r.rows.toNat):=by rw[gB]
theorem rowP_ds{bk b:Bk}{own:Option Nat}{i:Int}{r:Row}(hk:r.kind≠sGate)(h:rowP bk own i r=.ok b):b.ds=bk.ds\/∃n,b.ds=(deepen bk own n).ds:=by
 by_cases hd:declK r.kind=false
 ·rcases rowP_in hd h with rfl |⟨m,rfl⟩
  ·exact .inl rfl
  ·exact .inr ⟨m,rfl⟩
 ·unfold rowP at h
  split at h
  ·cases hl:declP bk bk.qs 64 r with
   |error e=>rw[hl]at h;cases h
   |ok l=>rw[hl]at h;cases h;exact .inl rfl
  split at h
  ·cases hl:declP bk bk.bs 64 r with
   |error e=>rw[hl]at h;cases h
   |ok l=>rw[hl]at h;cases h;exact .inl rfl
  ·rename_i k1 k2
   exact absurd (by unfold declK;simp[k1,k2,hk]) hd
theorem rowP_gate{bk b:Bk}{own:Option Nat}{i:Int}{r:Row}(hk:r.kind=sGate)(h:rowP bk own i r=.ok b):∃d,b.ds=bk.ds++[d]/\d.from_=i+1/\d.to_=i+1+r.rows:=by
 unfold rowP at h
 rw[zW (by rw[hk];decide),zW (by rw[hk];decide),zX hk]at h
 unfold defP at h
 split at h
 ·cases h
 split at h
 ·cases h
 split at h
 ·cases h
 split at h
 ·cases h
 cases h;exact⟨_,rfl,rfl,rfl⟩
theorem setWhole_map{L:List Row}{ds:List Dfn}{k:Nat}{n:Int}:(setWhole ds k n).map (bodyOf L)=ds.map (bodyOf L):=by
 unfold setWhole
 exact modify_map (g:=bodyOf L) (f:=fun d=>{ d with whole:=true,ops:=n }) (fun _=>rfl)
theorem lookP_gB{L:List Row}(n:Nat):∀{i:Nat}{rows:List Row}{bk b:Bk}(_:rows.length=n)(_:(L.drop i).take rows.length=rows)(_:lookP 0 none i rows bk=.ok b),b.ds.map (bodyOf L)=bk.ds.map (bodyOf L)++gB rows:=by
 induction n using Nat.strongRecOn with
 |ind n ih=>
 intro i rows bk b hn hL h
 cases rows with
 |nil=>rw[lookP_nil]at h;cases h;rw[gB_nil];simp
 |cons r rest=>
  rw[List.length_cons]at hn hL
  have hL1:(L.drop (i+1)).take rest.length=rest:=by
   have ht:(L.drop i).tail=L.drop (i+1):=List.tail_drop
   rw[<-ht]
   cases hx:L.drop i with
   |nil=>rw[hx]at hL;simp at hL
   |cons y ys=>
    rw[hx,List.take_succ_cons]at hL
    exact(List.cons.inj hL).2
  rw[lookP_cons]at h
  split at h
  ·cases h
  rename_i hf
  obtain⟨_,_,f3,f4,_⟩:=formP_0 (Classical.not_not.1 hf)
  have hm:r.rows.toNat<=rest.length:=by omega
  have hbody:(L.drop (i+1)).take r.rows.toNat=rest.take r.rows.toNat:=by
   conv=>rhs;rw[<-hL1]
   rw[List.take_take,Nat.min_eq_left hm]
  have hrest:(L.drop (i+1+r.rows.toNat)).take (rest.drop r.rows.toNat).length=rest.drop r.rows.toNat:=by
   conv=>rhs;rw[<-hL1]
   rw[List.drop_take,List.drop_drop,List.length_drop]
  split at h
  ·cases h
  rename_i b1 h1
  split at h
  ·cases h
  rename_i b2 h2
  have p2:=(lookP_pos (L:=L) _ rfl (by omega) h2).1
  rw[gB_cons]
  by_cases k:r.kind=sGate
  ·rw[zX k]at h
   obtain⟨d,e1,e2,e3⟩:=rowP_gate k h1
   have h3:=ih _ (by rw[List.length_drop];omega) rfl hrest h
   rw[h3,zX k]
   show(setWhole _ _ _).map _++_=_
   rw[setWhole_map,p2,e1,List.map_append,List.append_assoc]
   have hd:bodyOf L d=rest.take r.rows.toNat:=by
    unfold bodyOf sgR
    rw[e2,e3,<-hbody,show((i:Int)+1).toNat=i+1 by omega,show((i:Int)+1+r.rows-(i+1)).toNat=r.rows.toNat by omega]
   rw[<-hd];rfl
  ·rw[zW k]at h
   have h3:=ih _ (by rw[List.length_drop];omega) rfl hrest h
   rw[h3,zW k,p2,List.nil_append]
   congr 1
   rcases rowP_ds k h1 with e |⟨m,e⟩<;>rw[e]
   rw[deepen_none]
theorem lookP_app(n:Nat):∀{deep:Nat}{own:Option Nat}{i:Nat}{A B:List Row}{bk b:Bk}(_:A.length=n)(_:lookP deep own i A bk=.ok b),lookP deep own i (A++B) bk=lookP deep own (i+A.length) B b:=by
 induction n using Nat.strongRecOn with
 |ind n ih=>
 intro deep own i A B bk b hn h
 cases A with
 |nil=>rw[lookP_nil]at h;cases h;rfl
 |cons r rest=>
  rw[List.length_cons]at hn
  rw[lookP_cons]at h
  rw[List.cons_append,lookP_cons]
  split at h
  ·cases h
  rename_i hf
  have hf:=Classical.not_not.1 hf
  obtain⟨f1,f2,f3,f4,f5,f6,f7⟩:=formP_0 hf
  have hf':formP r (rest++B).length deep own.isSome=0:=by
   unfold formP at hf ⊢
   split at hf
   ·cases hf
   rename_i h1
   rw[zW]
   ·exact hf
   ·simp only[Bool.or_eq_true,decide_eq_true_eq,not_or]at h1 ⊢
    exact⟨h1.1,by rw[List.length_append];omega⟩
  rw[zW (by rw[hf'];simp)]
  have hm:r.rows.toNat<=rest.length:=by omega
  rw[List.take_append_of_le_length hm,List.drop_append_of_le_length hm]
  split at h
  ·cases h
  rename_i b1 h1
  try rw[h1]
  try simp only
  split at h
  ·cases h
  rename_i b2 h2
  try rw[h2]
  try simp only
  rw[ih _ (by rw[List.length_drop];omega) rfl h,List.length_drop,List.length_cons]
  congr 1
  omega
theorem formP_mk{r:Row}{behind deep:Int}(f1:knownK r.kind=true)(f2:bodyK r.kind=true\/r.rows=0)(f3:0<=r.rows)(f4:r.rows<=behind)(f5:deep<=32)(f6:declK r.kind=false\/¬0<deep):formP r behind deep false=0:=by
 unfold formP
 rw[zW,zW (by omega),zW]
 ·rfl
 ·rcases f6 with f6 |f6
  ·simp[f6]
  ·simp[f6]
 ·rcases f2 with f2 |f2
  ·simp[f1,f2];omega
  ·simp[f1,f2];omega
theorem lookP_up(n:Nat):∀{deep:Nat}{i:Nat}{rows:List Row}{bk b:Bk}(_:rows.length=n)(_:lookP (deep+1) none i rows bk=.ok b),lookP deep none i rows bk=.ok bk:=by
 induction n using Nat.strongRecOn with
 |ind n ih=>
 intro deep i rows bk b hn h
 cases rows with
 |nil=>rw[lookP_nil]
 |cons r rest=>
  rw[List.length_cons]at hn
  rw[lookP_cons]at h ⊢
  split at h
  ·cases h
  rename_i hf
  obtain⟨f1,f2,f3,f4,f5,f6,f7⟩:=formP_0 (Classical.not_not.1 hf)
  have hk:=f6 (by omega)
  have k3:=(declK_no hk).2.2
  have hf':formP r rest.length deep (none:Option Nat).isSome=0:=formP_mk f1 f2 f3 f4 (by omega) (.inl hk)
  rw[zW (by rw[hf'];simp)]
  split at h
  ·cases h
  rename_i b1 h1
  have e1:b1=bk:=by
   rcases rowP_in hk h1 with e |⟨m,e⟩
   ·exact e
   ·exact e
  subst e1
  try rw[h1]
  try simp only
  split at h
  ·cases h
  rename_i b2 h2
  rw[zW k3]at h h2 ⊢
  have e2:=(lookP_pos (L:=[]) _ rfl (by omega) h2).2 rfl
  subst e2
  rw[ih _ (by rw[yA];omega) rfl h2]
  simp only
  rw[zW k3]
  exact ih _ (by rw[List.length_drop];omega) rfl h
end
section
open Go.Ab
inductive U:List Row->List Row->Prop
 |here {r:Row} {body C:List Row} {n:Nat} (hk:r.kind=sRepeat) (hn:r.num=n) (hb:r.rows=body.length):U (r::(body++C)) ((List.replicate n body).flatten++C)
 |skip {x:Row} {bd C C':List Row} (hx:x.rows=bd.length) (h:U C C'):U (x::(bd++C)) (x::(bd++C'))
 |into {x:Row} {bd bd' C:List Row} (hx:x.rows=bd.length) (hk:x.kind=sRepeat\/x.kind=sIf) (h:U bd bd'):U (x::(bd++C)) ({ x with rows:=(bd'.length:Int) }::(bd'++C))
theorem RE_ok{ε:Type}{x y:Except ε Bk}{a:Bk}(h:RE x y)(hx:x=.ok a):∃b,y=.ok b/\SB a b:=by
 subst hx
 cases y with
 |error e=>exact h.elim
 |ok b=>exact⟨b,rfl,h⟩
theorem take_len{α:Type}{A B:List α}{n:Int}(h:n=A.length):(A++B).take n.toNat=A/\(A++B).drop n.toNat=B:=by
 subst h
 simp
theorem lookP_row{deep:Nat}{own:Option Nat}{i:Nat}{x:Row}{bd C:List Row}{bk b:Bk}(hx:x.rows=bd.length)(h:lookP deep own i (x::(bd++C)) bk=.ok b) :
  formP x (bd++C).length deep own.isSome=0/\∃b1 b2,rowP bk own i x=.ok b1/\lookP (deep+1) (if x.kind=sGate then some bk.ds.length else own) (i+1) bd b1=.ok b2 /\
   lookP deep own (i+1+x.rows.toNat) C (if x.kind=sGate then{ b2 with ds:=setWhole b2.ds bk.ds.length (countP b2.ds bd 0) } else b2)=.ok b:=by
 rw[lookP_cons]at h
 obtain⟨e1,e2⟩:=take_len (B:=C) hx
 rw[e1,e2]at h
 split at h
 ·cases h
 rename_i hf
 refine⟨Classical.not_not.1 hf,?_⟩
 split at h
 ·cases h
 rename_i b1 h1
 split at h
 ·cases h
 rename_i b2 h2
 exact⟨b1,b2,h1,h2,h⟩
theorem lookP_mk{deep:Nat}{own:Option Nat}{i:Nat}{x:Row}{bd C:List Row}{bk b b1 b2:Bk}(hx:x.rows=bd.length)(hf:formP x (bd++C).length deep own.isSome=0)(h1:rowP bk own i x=.ok b1)
  (h2:lookP (deep+1) (if x.kind=sGate then some bk.ds.length else own) (i+1) bd b1=.ok b2)
  (h3:lookP deep own (i+1+x.rows.toNat) C (if x.kind=sGate then{ b2 with ds:=setWhole b2.ds bk.ds.length (countP b2.ds bd 0) } else b2)=.ok b):lookP deep own i (x::(bd++C)) bk=.ok b:=by
 rw[lookP_cons]
 obtain⟨e1,e2⟩:=take_len (B:=C) hx
 rw[e1,e2,zW (by rw[hf];simp),h1]
 simp only
 rw[h2]
 exact h3
theorem lookP_sb{deep:Nat}{own:Option Nat}{i j:Nat}{rows:List Row}{a b c:Bk}(s:SB a b)(h:lookP deep own i rows a=.ok c):∃d,lookP deep own j rows b=.ok d/\SB c d:=RE_ok (lookP_SB _ rfl s) h
theorem rep_num{x:Row}{bk b:Bk}{own:Option Nat}{i:Int}(hk:x.kind=sRepeat)(h:rowP bk own i x=.ok b):b=bk:=by
 rcases rowP_in (by rw[hk];decide) h with e |⟨n,e⟩
 ·exact e
 ·unfold rowP at h
  rw[zW (by rw[hk];decide),zW (by rw[hk];decide),zW (by rw[hk];decide),zX hk]at h
  split at h
  ·cases h
  ·cases h;rfl
theorem rowP_rows{bk:Bk}{own:Option Nat}{i:Int}{x:Row}{n:Int}(hk:x.kind≠sGate):rowP bk own i { x with rows:=n }=rowP bk own i x:=by
 unfold rowP declP defP ifP useP
 simp only[zW hk]
theorem formP_more{r:Row}{b1 b2 deep:Int}{own:Bool}(h:formP r b1 deep own=0)(hb:r.rows<=b2):formP r b2 deep own=0:=by
 unfold formP at h ⊢
 split at h
 ·cases h
 rename_i h1
 rw[zW]
 ·exact h
 ·simp only[Bool.or_eq_true,decide_eq_true_eq,not_or]at h1 ⊢
  exact⟨h1.1,by omega⟩
theorem lookP_U{rows rows':List Row}(hu:U rows rows'):∀{deep i j:Nat}{bk bk' b:Bk}(_:SB bk bk')(_:lookP deep none i rows bk=.ok b),∃b',lookP deep none j rows' bk'=.ok b'/\SB b b':=by
 induction hu with
 | @here r body C n hk hn hb=>
  intro deep i j bk bk' b s h
  obtain⟨hf,b1,b2,h1,h2,h3⟩:=lookP_row hb h
  have k3:r.kind≠sGate:=by rw[hk];decide
  rw[zW k3]at h2 h3
  have e1:=rep_num hk h1
  subst e1
  have e2:=(lookP_pos (L:=[]) _ rfl (by omega) h2).2 rfl
  subst e2
  have h0:=lookP_up _ rfl h2
  have key:∀(n:Nat)(j:Nat)(bk':Bk),SB b2 bk'->∃b',lookP deep none j ((List.replicate n body).flatten++C) bk'=.ok b'/\SB b b':=by
   intro n
   induction n with
   |zero=>intro j bk' s;exact lookP_sb s h3
   |succ n ih=>
    intro j bk' s
    obtain⟨d,hd,sd'⟩:=lookP_sb (j:=j) s h0
    rw[List.replicate_succ,List.flatten_cons,List.append_assoc,lookP_app _ rfl hd]
    exact ih _ d sd'
  exact key n j bk' s
 | @skip x bd C C' hx h ih=>
  intro deep i j bk bk' b s h
  obtain⟨hf,b1,b2,h1,h2,h3⟩:=lookP_row hx h
  have hf':formP x (bd++C').length deep (none:Option Nat).isSome=0:=formP_more hf (by rw[List.length_append];omega)
  obtain⟨c1,g1,s1⟩:=RE_ok (rowP_SB s none i j x) h1
  rw[sdLen s.d]at h2 h3
  obtain⟨c2,g2,s2⟩:=lookP_sb (j:=j+1) s1 h2
  have s3:SB (if x.kind=sGate then{ b2 with ds:=setWhole b2.ds bk'.ds.length (countP b2.ds bd 0) } else b2) (if x.kind=sGate then{ c2 with ds:=setWhole c2.ds bk'.ds.length (countP c2.ds bd 0) } else c2):=by
   by_cases k:x.kind=sGate
   ·rw[zX k,zX k,countP_SB s2.d _ rfl]
    exact⟨s2.q,s2.bb,modify_sd s2.d (fun _=>rfl) _⟩
   ·rw[zW k,zW k];exact s2
  obtain⟨b',g3,s4⟩:=ih (j:=j+1+x.rows.toNat) s3 h3
  exact⟨b',lookP_mk hx hf' g1 g2 g3,s4⟩
 | @into x bd bd' C hx hk h ih=>
  intro deep i j bk bk' b s h
  obtain⟨hf,b1,b2,h1,h2,h3⟩:=lookP_row hx h
  have k3:x.kind≠sGate:=by rcases hk with hk |hk<;>rw[hk]<;>decide
  have kb:bodyK x.kind=true:=by rcases hk with hk |hk<;>rw[hk]<;>decide
  have kd:declK x.kind=false:=by rcases hk with hk |hk<;>rw[hk]<;>decide
  obtain⟨f1,f2,f3,f4,f5,f6,f7⟩:=formP_0 hf
  have hf':formP { x with rows:=(bd'.length:Int) } (bd'++C).length deep (none:Option Nat).isSome=0:=
   formP_mk f1 (.inl kb) (Int.natCast_nonneg _) (by rw[List.length_append];simp only;omega) f5 (.inl kd)
  obtain⟨c1,g1,s1⟩:=RE_ok (rowP_SB s none i j x) h1
  rw[zW k3]at h2 h3
  obtain⟨c2,g2,s2⟩:=ih (j:=j+1) s1 h2
  obtain⟨b',g3,s4⟩:=lookP_sb (j:=j+1+bd'.length) s2 h3
  refine⟨b',lookP_mk (x:={ x with rows:=(bd'.length:Int) }) (b2:=c2) rfl hf' ((rowP_rows k3).trans g1) ?_ ?_,s4⟩
  ·exact(by rw[zW k3];exact g2)
  ·rw[zW k3]
   exact g3
end
section
open Go.Ab
def Pre(l:OL)(x:Except Int OL):Prop:=∀l',x=.ok l'->∃d,l'=l++d
theorem Pre.ok{l:OL}:Pre l (.ok l):=fun _ h=>by cases h;exact⟨[],by simp⟩
theorem Pre.put{l:OL}{o:COp}{pl:Int}:Pre l (putP l o pl):=fun l' h=>by
 unfold putP at h
 split at h
 ·cases h
 ·cases h;exact⟨_,rfl⟩
theorem Pre.bind{f:OL->Except Int OL}{l:OL}{x:Except Int OL}(hx:Pre l x)(hf:∀l,Pre l (f l)):Pre l (bindP f x):=fun l' h=>by
 obtain⟨l1,h1,h2⟩:=bind_all h
 obtain⟨d1,e1⟩:=hx _ h1
 obtain⟨d2,e2⟩:=hf _ _ h2
 exact⟨d1++d2,by rw[e2,e1,List.append_assoc]⟩
theorem Pre.rep{f:OL->Except Int OL}(hf:∀l,Pre l (f l)):∀(n:Nat)(l:OL),Pre l (repP f n l)
 |0,l=>.ok
 |n+1,l=>fun l' h=>by
  unfold repP at h
  split at h
  ·cases h
  ·rename_i l1 h1
   obtain⟨d1,e1⟩:=hf _ _ h1
   split at h
   ·cases h;exact⟨d1,e1⟩
   ·obtain⟨d2,e2⟩:=Pre.rep hf n l1 _ h
    exact⟨d1++d2,by rw[e2,e1,List.append_assoc]⟩
theorem bodyP_Pre{bk:Bk}{L:List Row}{w:Wsh}{pl:Int}(k:Nat):∀(n:Nat){env:List (ByteArray×Int)}{rows:List Row}(_:rows.length=n)(l:OL),Pre l (bodyP bk L k env w pl rows l):=by
 induction k using Nat.strongRecOn with
 |ind k ihk=>
 intro n
 induction n using Nat.strongRecOn with
 |ind n ih=>
 intro env rows hn l
 cases rows with
 |nil=>rw[bodyP_nil];exact .ok
 |cons r rest=>
  rw[List.length_cons]at hn
  rw[bodyP_cons]
  refine .bind ?_ fun l'=>ih _ (by rw[List.length_drop];omega) rfl l'
  split
  ·exact .rep (fun l=>ih _ (by rw[yA];omega) rfl l) _ _
  ·unfold applyP
   split
   ·exact .put
   ·split
    ·exact .ok
    ·split
     ·exact .ok
     ·split
      ·rename_i hi
       exact ihk _ hi _ rfl l
      ·exact .ok
theorem applyP_Pre{bk:Bk}{L:List Row}{w:Wsh}{pl:Int}{k:Nat}{nm:ByteArray}{qs:List Int}(l:OL):Pre l (applyP bk L k nm qs w pl l):=by
 unfold applyP
 split
 ·exact .put
 ·split
  ·exact .ok
  ·split
   ·exact .ok
   ·split
    ·exact bodyP_Pre _ _ rfl l
    ·exact .ok
theorem doP_Pre{bk:Bk}{L:List Row}(n:Nat):∀{w:Wsh}{rows:List Row}(_:rows.length=n)(l:OL),Pre l (doP bk L w rows l):=by
 induction n using Nat.strongRecOn with
 |ind n ih=>
 intro w rows hn l
 cases rows with
 |nil=>rw[doP_nil];exact .ok
 |cons r rest=>
  rw[List.length_cons]at hn
  rw[doP_cons]
  refine .bind ?_ fun l'=>ih _ (by rw[List.length_drop];omega) rfl l'
  unfold oneP
  split
  ·exact .rep (fun l=>ih _ (by rw[yA];omega) rfl l) _ _
  split
  ·split
   ·exact .ok
   ·split
    ·exact .ok
    ·exact ih _ (by rw[yA];omega) rfl l
  split
  ·exact applyP_Pre l
  split
  ·split
   ·exact .put
   ·exact .ok
  split
  ·exact .put
  exact .ok
def iterP(f:OL->Except Int OL):Nat->OL->Except Int OL
 |0,l=>.ok l
 |n+1,l=>bindP (iterP f n) (f l)
theorem rep_iter{f:OL->Except Int OL}(hf:∀l,Pre l (f l)):∀(n:Nat)(l:OL),repP f n l=iterP f n l
 |0,l=>rfl
 |n+1,l=>by
  unfold repP iterP
  cases h:f l with
  |error e=>rfl
  |ok l'=>
   simp only
   obtain⟨d,e⟩:=hf _ _ h
   by_cases hl:l'.length=l.length
   ·rw[zX hl]
    have:d=[]:=by
     rw[e,List.length_append]at hl
     exact List.length_eq_zero_iff.1 (by omega)
    subst this
    rw[List.append_nil]at e
    subst e
    have stay:∀n,iterP f n l'=.ok l':=by
     intro n
     induction n with
     |zero=>rfl
     |succ n ih=>show bindP (iterP f n) (f l')=_;rw[h];exact ih
    exact(stay n).symm
   ·rw[zW hl]
    exact rep_iter hf n l'
theorem doP_app{bk:Bk}{L:List Row}{w:Wsh}(n:Nat):∀{A B:List Row}{l:OL}(_:A.length=n)(_:Seg A),doP bk L w (A++B) l=bindP (doP bk L w B) (doP bk L w A l):=by
 induction n using Nat.strongRecOn with
 |ind n ih=>
 intro A B l hn hs
 cases A with
 |nil=>rw[doP_nil];rfl
 |cons r rest=>
  rw[List.length_cons]at hn
  obtain⟨⟨h0,h1⟩,_,s1,s2⟩:=hs.inv
  have hm:r.rows.toNat<=rest.length:=by omega
  rw[List.cons_append,doP_cons,doP_cons,List.take_append_of_le_length hm,List.drop_append_of_le_length hm]
  cases hx:oneP bk L w r (rest.take r.rows.toNat) l with
  |error e=>rfl
  |ok l1=>exact ih _ (by rw[List.length_drop];omega) rfl s2
theorem doP_row{bk:Bk}{L:List Row}{w:Wsh}{x:Row}{bd C:List Row}{l:OL}(hx:x.rows=bd.length):doP bk L w (x::(bd++C)) l=bindP (doP bk L w C) (oneP bk L w x bd l):=by
 obtain⟨e1,e2⟩:=take_len (B:=C) hx
 rw[doP_cons,e1,e2]
theorem doP_U{bk:Bk}{L:List Row}{rows rows':List Row}(hu:U rows rows'):∀{w:Wsh}{l:OL}(_:Seg rows),doP bk L w rows' l=doP bk L w rows l:=by
 induction hu with
 | @here r body C n hk hn hb=>
  intro w l hs
  obtain⟨_,_,s1,s2⟩:=hs.inv
  obtain⟨e1,e2⟩:=take_len (B:=C) hb
  rw[e1]at s1
  rw[doP_row hb]
  have ho:oneP bk L w r body l=iterP (doP bk L w body) n l:=by
   unfold oneP
   rw[zX hk,hn]
   exact rep_iter (fun l=>doP_Pre _ rfl l) _ _
  rw[ho]
  clear ho
  induction n generalizing l with
  |zero=>rfl
  |succ m ih=>
   rw[List.replicate_succ,List.flatten_cons,List.append_assoc,doP_app _ rfl s1]
   show _=bindP _ (bindP (iterP (doP bk L w body) m) (doP bk L w body l))
   cases doP bk L w body l with
   |error e=>rfl
   |ok l1=>
    show doP bk L w ((List.replicate m body).flatten++C) l1=bindP _ (iterP (doP bk L w body) m l1)
    have key:∀(m:Nat)(l1:OL),doP bk L w ((List.replicate m body).flatten++C) l1=bindP (doP bk L w C) (iterP (doP bk L w body) m l1):=by
     intro m
     induction m with
     |zero=>intro l1;rfl
     |succ m ih=>
      intro l1
      rw[List.replicate_succ,List.flatten_cons,List.append_assoc,doP_app _ rfl s1]
      show _=bindP _ (bindP (iterP (doP bk L w body) m) (doP bk L w body l1))
      cases doP bk L w body l1 with
      |error e=>rfl
      |ok l2=>exact ih l2
    exact key m l1
 | @skip x bd C C' hx h ih=>
  intro w l hs
  obtain⟨_,_,s1,s2⟩:=hs.inv
  obtain⟨e1,e2⟩:=take_len (B:=C) hx
  rw[e2]at s2
  rw[doP_row hx,doP_row hx]
  cases oneP bk L w x bd l with
  |error e=>rfl
  |ok l1=>exact ih s2
 | @into x bd bd' C hx hk h ih=>
  intro w l hs
  obtain⟨_,_,s1,s2⟩:=hs.inv
  obtain⟨e1,e2⟩:=take_len (B:=C) hx
  rw[e1]at s1
  rw[doP_row hx,doP_row (x:={ x with rows:=(bd'.length:Int) }) rfl]
  congr 1
  have hf:∀w,doP bk L w bd'=doP bk L w bd:=fun w=>funext fun l=>ih s1
  unfold oneP
  simp only[hf]
end
section
open Go.Ab
structure DB (a b:Bk) (L L':List Row):Prop where
 s:SB a b
 o:a.ds.map (bodyOf L)=b.ds.map (bodyOf L')
section
variable {a b:Bk} {L L':List Row}
theorem dfnAt_SB(s:SB a b)(n:ByteArray):dfnAt a.ds n=dfnAt b.ds n:=by
 have h:(a.ds.map sd).findIdx? (fun d=>decide (d.name=n))=(b.ds.map sd).findIdx? (fun d=>decide (d.name=n)):=by rw[s.d]
 rw[List.findIdx?_map,List.findIdx?_map]at h
 exact h
theorem DB.at_(t:DB a b L L')(i:Nat):(a.ds[i]?=none/\b.ds[i]?=none)\/∃d e,a.ds[i]?=some d/\b.ds[i]?=some e/\d.ops=e.ops/\d.params=e.params/\bodyOf L d=bodyOf L' e:=by
 have h1:=sdAll (f:=fun d=>(d.ops,d.params)) (fun _=>rfl) (sdAt t.s.d i)
 have h2:(a.ds[i]?).map (bodyOf L)=(b.ds[i]?).map (bodyOf L'):=by rw[<-List.getElem?_map,<-List.getElem?_map,t.o]
 cases hx:a.ds[i]? with
 |none=>rw[hx]at h1;cases hy:b.ds[i]? with
  |none=>exact .inl ⟨rfl,rfl⟩
  |some e=>rw[hy]at h1;cases h1
 |some d=>rw[hx]at h1 h2;cases hy:b.ds[i]? with
  |none=>rw[hy]at h1;cases h1
  |some e=>
   rw[hy]at h1 h2
   simp only[yB,zQ,Prod.mk.injEq]at h1 h2
   exact .inr ⟨d,e,rfl,rfl,h1.1,h1.2,h2⟩
theorem bodyP_DB(t:DB a b L L'){w:Wsh}{pl:Int}(k:Nat):∀(n:Nat){env:List (ByteArray×Int)}{rows:List Row}(_:rows.length=n)(l:OL),bodyP a L k env w pl rows l=bodyP b L' k env w pl rows l:=by
 induction k using Nat.strongRecOn with
 |ind k ihk=>
 intro n
 induction n using Nat.strongRecOn with
 |ind n ih=>
 intro env rows hn l
 cases rows with
 |nil=>rw[bodyP_nil,bodyP_nil]
 |cons r rest=>
  rw[List.length_cons]at hn
  rw[bodyP_cons,bodyP_cons]
  have e1:bodyP a L k env w pl (rest.drop r.rows.toNat)=bodyP b L' k env w pl (rest.drop r.rows.toNat):=funext fun l=>ih _ (by rw[List.length_drop];omega) rfl l
  have e2:bodyP a L k env w pl (rest.take r.rows.toNat)=bodyP b L' k env w pl (rest.take r.rows.toNat):=funext fun l=>ih _ (by rw[yA];omega) rfl l
  rw[e1,e2]
  congr 1
  split
  ·rfl
  ·unfold applyP
   rw[dfnAt_SB t.s]
   cases dfnAt b.ds r.name with
   |none=>rfl
   |some i=>
    rcases t.at_ i with⟨g1,g2⟩ |⟨d,e,g1,g2,g3,g4,g5⟩
    ·simp only[g1,g2]
    ·simp only[g1,g2,g3,g4,g5]
     split
     ·rfl
     ·split
      ·rename_i hi;exact ihk _ hi _ rfl l
      ·rfl
theorem applyP_DB(t:DB a b L L'){w:Wsh}{pl:Int}{k:Nat}{nm:ByteArray}{qs:List Int}(l:OL):applyP a L k nm qs w pl l=applyP b L' k nm qs w pl l:=by
 unfold applyP
 rw[dfnAt_SB t.s]
 cases dfnAt b.ds nm with
 |none=>rfl
 |some i=>
  rcases t.at_ i with⟨g1,g2⟩ |⟨d,e,g1,g2,g3,g4,g5⟩
  ·simp only[g1,g2]
  ·simp only[g1,g2,g3,g4,g5,bodyP_DB t _ _ rfl]
theorem doP_DB(t:DB a b L L')(n:Nat):∀{w:Wsh}{rows:List Row}(_:rows.length=n)(l:OL),doP a L w rows l=doP b L' w rows l:=by
 induction n using Nat.strongRecOn with
 |ind n ih=>
 intro w rows hn l
 cases rows with
 |nil=>rw[doP_nil,doP_nil]
 |cons r rest=>
  rw[List.length_cons]at hn
  rw[doP_cons,doP_cons]
  have e1:∀w,doP a L w (rest.drop r.rows.toNat)=doP b L' w (rest.drop r.rows.toNat):=fun w=>funext fun l=>ih _ (by rw[List.length_drop];omega) rfl l
  have e2:∀w,doP a L w (rest.take r.rows.toNat)=doP b L' w (rest.take r.rows.toNat):=fun w=>funext fun l=>ih _ (by rw[yA];omega) rfl l
  rw[e1]
  congr 1
  unfold oneP
  simp only[e2,t.s.q,t.s.bb,sdLen t.s.d,applyP_DB t]
end
theorem gB_in(n:Nat):∀{deep:Nat}{own:Option Nat}{i:Nat}{rows:List Row}{bk b:Bk}(_:rows.length=n)(_:0<deep)(_:lookP deep own i rows bk=.ok b),gB rows=[]:=by
 induction n using Nat.strongRecOn with
 |ind n ih=>
 intro deep own i rows bk b hn hd h
 cases rows with
 |nil=>exact gB_nil
 |cons r rest=>
  rw[List.length_cons]at hn
  rw[lookP_cons]at h
  split at h
  ·cases h
  rename_i hf
  obtain⟨_,_,_,_,_,f6,_⟩:=formP_0 (Classical.not_not.1 hf)
  have k3:=(declK_no (f6 (by omega))).2.2
  split at h
  ·cases h
  split at h
  ·cases h
  rw[zW k3]at h
  rw[gB_cons,zW k3,ih _ (by rw[List.length_drop];omega) rfl hd h];rfl
theorem gB_app(n:Nat):∀{A B:List Row}(_:A.length=n)(_:Seg A),gB (A++B)=gB A++gB B:=by
 induction n using Nat.strongRecOn with
 |ind n ih=>
 intro A B hn hs
 cases A with
 |nil=>rw[gB_nil];rfl
 |cons r rest=>
  rw[List.length_cons]at hn
  obtain⟨⟨h0,h1⟩,_,s1,s2⟩:=hs.inv
  have hm:r.rows.toNat<=rest.length:=by omega
  rw[List.cons_append,gB_cons,gB_cons,List.take_append_of_le_length hm,List.drop_append_of_le_length hm,ih _ (by rw[List.length_drop];omega) rfl s2,List.append_assoc]
theorem gB_row{x:Row}{bd C:List Row}(hx:x.rows=bd.length):gB (x::(bd++C))=(if x.kind=sGate then[bd] else[])++gB C:=by
 obtain⟨e1,e2⟩:=take_len (B:=C) hx
 rw[gB_cons,e1,e2]
theorem gB_U{rows rows':List Row}(hu:U rows rows'):∀{deep i:Nat}{bk b:Bk}(_:Seg rows)(_:lookP deep none i rows bk=.ok b),gB rows'=gB rows:=by
 induction hu with
 | @here r body C n hk hn hb=>
  intro deep i bk b hs h
  obtain⟨_,b1,b2,_,h2,_⟩:=lookP_row hb h
  obtain⟨_,_,s1,s2⟩:=hs.inv
  rw[(take_len (B:=C) hb).1]at s1
  have k3:r.kind≠sGate:=by rw[hk];decide
  rw[gB_row hb,zW k3]
  have h0:=gB_in _ rfl (by omega) h2
  clear hn h hs
  induction n with
  |zero=>rfl
  |succ n ih=>rw[List.replicate_succ,List.flatten_cons,List.append_assoc,gB_app _ rfl s1,h0];exact ih
 | @skip x bd C C' hx h ih=>
  intro deep i bk b hs h
  obtain⟨_,b1,b2,_,_,h3⟩:=lookP_row hx h
  obtain⟨_,_,s1,s2⟩:=hs.inv
  rw[(take_len (B:=C) hx).2]at s2
  rw[gB_row hx,gB_row hx,ih s2 h3]
 | @into x bd bd' C hx hk h ih=>
  intro deep i bk b hs h
  have k3:x.kind≠sGate:=by rcases hk with hk |hk<;>rw[hk]<;>decide
  rw[gB_row hx,gB_row (x:={ x with rows:=(bd'.length:Int) }) rfl]
  simp only[zW k3]
theorem flatP_U{L L':List Row}(hu:U L L')(hs:Seg L){b:Bk}(h:lookP 0 none 0 L ⟨[],[],[]⟩=.ok b):flatP L'=flatP L:=by
 obtain⟨b',h',s⟩:=lookP_U hu (j:=0) SB.refl h
 have t:DB b b' L L':=⟨s,by
  rw[lookP_gB _ rfl (by simp) h,lookP_gB _ rfl (by simp) h',gB_U hu hs h];rfl⟩
 have hd:doP b' L' ⟨false,0,0⟩ L' []=doP b L ⟨false,0,0⟩ L []:=by
  rw[<-doP_DB t _ rfl,doP_U hu hs]
 unfold flatP
 rw[h,h']
 simp only[hd,s.q,s.bb]
end
section
open Go.Ab
def findGo(rows:List Row)(i:Nat):Option Nat:=
 match rows with
 |[]=>none
 |r::t=>if r.kind=sGate then findGo (t.drop r.rows.toNat) (i+1+r.rows.toNat) else if r.kind=sRepeat/\r.num<=20 then some i else findGo t (i+1)
termination_by rows.length
decreasing_by all_goals (simp only[List.length_drop,List.length_cons];omega)
theorem findGo_nil{i:Nat}:findGo [] i=none:=by rw[findGo]
theorem findGo_cons{r:Row}{t:List Row}{i:Nat}:findGo (r::t) i=if r.kind=sGate then findGo (t.drop r.rows.toNat) (i+1+r.rows.toNat) else if r.kind=sRepeat/\r.num<=20 then some i else findGo t (i+1):=by rw[findGo]
def adj(δ:Int):List Row->List Row
 |[]=>[]
 |x::A=>(if (A.length:Int)+1<=x.rows then{ x with rows:=x.rows+δ } else x)::adj δ A
theorem adj_len{δ:Int}:∀{A:List Row},(adj δ A).length=A.length
 |[]=>rfl
 |_::A=>by simp only[adj,List.length_cons,adj_len]
theorem adj_seg{δ:Int}(n:Nat):∀{A T:List Row}(_:A.length=n)(_:Seg A),adj δ (A++T)=A++adj δ T:=by
 induction n using Nat.strongRecOn with
 |ind n ih=>
 intro A T hn hs
 cases A with
 |nil=>rfl
 |cons y A1=>
  rw[List.length_cons]at hn
  obtain⟨⟨h0,h1⟩,_,s1,s2⟩:=hs.inv
  have e:A1++T=A1.take y.rows.toNat++(A1.drop y.rows.toNat++T):=by rw[<-List.append_assoc,List.take_append_drop]
  rw[List.cons_append,adj,zW (by rw[List.length_append];omega),e,ih _ (by rw[yA];omega) rfl s1,ih _ (by rw[List.length_drop];omega) rfl s2,<-List.append_assoc,List.take_append_drop]
  rfl
theorem findGo_app(n:Nat):∀{A B:List Row}{i:Nat}(_:A.length=n)(_:Seg A),findGo (A++B) i=match findGo A i with |some k=>some k |none=>findGo B (i+A.length):=by
 induction n using Nat.strongRecOn with
 |ind n ih=>
 intro A B i hn hs
 cases A with
 |nil=>rw[findGo_nil];rfl
 |cons r rest=>
  rw[List.length_cons]at hn
  obtain⟨⟨h0,h1⟩,_,s1,s2⟩:=hs.inv
  have hm:r.rows.toNat<=rest.length:=by omega
  rw[List.cons_append,findGo_cons,findGo_cons,List.drop_append_of_le_length hm]
  split
  ·rw[ih _ (by rw[List.length_drop];omega) rfl s2,List.length_drop,List.length_cons,show i+1+r.rows.toNat+(rest.length-r.rows.toNat)=i+(rest.length+1) by omega]
  split
  ·rfl
  ·have e:rest++B=rest.take r.rows.toNat++(rest.drop r.rows.toNat++B):=by rw[<-List.append_assoc,List.take_append_drop]
   have e2:findGo rest (i+1)=findGo (rest.take r.rows.toNat++rest.drop r.rows.toNat) (i+1):=by rw[List.take_append_drop]
   have ht:(rest.take r.rows.toNat).length=r.rows.toNat:=by rw[yA];omega
   rw[e,e2,ih _ (by omega) ht s1,ih _ (by omega) ht s1]
   cases findGo (rest.take r.rows.toNat) (i+1) with
   |some k=>rfl
   |none=>
    simp only
    rw[ih _ (by rw[List.length_drop];omega) rfl s2,ht,List.length_drop,List.length_cons,show i+1+r.rows.toNat+(rest.length-r.rows.toNat)=i+(rest.length+1) by omega]
def HK(rows:List Row):Prop:=∀r∈rows,bodyK r.kind=true\/r.rows=0
theorem rep_len{α:Type}{n:Nat}{l:List α}:(List.replicate n l).flatten.length=n*l.length:=by
 induction n with
 |zero=>simp
 |succ n ih=>rw[List.replicate_succ,List.flatten_cons,List.length_append,ih,Nat.succ_mul];omega
structure Found (rows:List Row) (i k:Nat) (A:List Row) (r:Row) (body C:List Row):Prop where
 e:rows=A++r::(body++C)
 k:k=i+A.length
 rr:r.kind=sRepeat/\r.num<=20/\0<=r.num
 b:r.rows=body.length
 u:U rows (adj ((r.num-1)*r.rows-1) A++((List.replicate r.num.toNat body).flatten++C))
theorem findGo_U(n:Nat):∀{rows:List Row}{i k:Nat}(_:rows.length=n)(_:Seg rows)(_:HK rows)(_:findGo rows i=some k),∃A r body C,Found rows i k A r body C:=by
 induction n using Nat.strongRecOn with
 |ind n ih=>
 intro rows i k hn hs hk h
 cases rows with
 |nil=>rw[findGo_nil]at h;cases h
 |cons x t=>
  rw[List.length_cons]at hn
  obtain⟨⟨h0,h1⟩,hnum,s1,s2⟩:=hs.inv
  have hm:x.rows.toNat<=t.length:=by omega
  obtain⟨bd,hbd⟩:∃bd,bd=t.take x.rows.toNat:=⟨_,rfl⟩
  obtain⟨C0,hC0⟩:∃C0,C0=t.drop x.rows.toNat:=⟨_,rfl⟩
  have ht:t=bd++C0:=by rw[hbd,hC0,List.take_append_drop]
  have hx:x.rows=bd.length:=by rw[hbd,yA];omega
  have hl:t.length=bd.length+C0.length:=by rw[ht,List.length_append]
  rw[<-hbd]at s1
  rw[<-hC0]at s2
  have kb:HK bd:=fun r hr=>hk r (List.mem_cons_of_mem _ (by rw[ht];exact List.mem_append_left _ hr))
  have kc:HK C0:=fun r hr=>hk r (List.mem_cons_of_mem _ (by rw[ht];exact List.mem_append_right _ hr))
  rw[findGo_cons,<-hC0]at h
  have behind:∀{j:Nat},j=i+1+bd.length->findGo C0 j=some k->∃A r body C,Found (x::t) i k A r body C:=fun{j} hj h=>by
   obtain⟨A,r,body,C,f⟩:=ih _ (by omega) rfl s2 kc h
   refine⟨x::(bd++A),r,body,C,⟨?_,?_,f.rr,f.b,?_⟩⟩
   ·rw[ht,f.e,List.cons_append,List.append_assoc]
   ·rw[f.k,List.length_cons,List.length_append];omega
   ·rw[adj,zW (by rw[List.length_append];omega),adj_seg _ rfl s1,ht,List.cons_append,List.append_assoc]
    exact .skip hx f.u
  split at h
  ·exact behind (by omega) h
  rename_i kg
  split at h
  ·rename_i hr
   cases h
   refine⟨[],x,bd,C0,⟨by rw[ht];rfl,rfl,⟨hr.1,hr.2,hnum hr.1⟩,hx,?_⟩⟩
   rw[ht]
   exact .here hr.1 (by have:=hnum hr.1;omega) hx
  ·rw[ht,findGo_app _ rfl s1]at h
   cases hf:findGo bd (i+1) with
   |none=>rw[hf]at h;exact behind (by omega) h
   |some k'=>
    rw[hf]at h
    cases h
    obtain⟨A,r,body,C,f⟩:=ih _ (by omega) rfl s1 kb hf
    have hlen:bd.length=A.length+(body.length+C.length)+1:=by rw[f.e,List.length_append,List.length_cons,List.length_append];omega
    have kx:x.kind=sRepeat\/x.kind=sIf:=by
     rcases hk x (List.mem_cons_self ..) with hb |hb
     ·unfold bodyK at hb
      simp only[Bool.or_eq_true,decide_eq_true_eq]at hb
      rcases hb with(hb |hb) |hb
      ·exact absurd hb kg
      ·exact .inl hb
      ·exact .inr hb
     ·omega
    refine⟨x::A,r,body,C++C0,⟨?_,?_,f.rr,f.b,?_⟩⟩
    ·rw[ht];conv=>lhs;rw[f.e]
     simp only[List.cons_append,List.append_assoc]
    ·rw[f.k,List.length_cons];omega
    ·have hu:=U.into (C:=C0) hx kx f.u
     rw[adj,zX (by omega),ht,List.cons_append]
     have e1:((adj ((r.num-1)*r.rows-1) A++((List.replicate r.num.toNat body).flatten++C)).length:Int)=x.rows+((r.num-1)*r.rows-1):=by
      rw[List.length_append,List.length_append,adj_len,rep_len,hx,hlen]
      have h1:((r.num.toNat*body.length:Nat):Int)=r.num*r.rows:=by rw[Int.natCast_mul,f.b,Int.toNat_of_nonneg f.rr.2.2]
      have h2:(r.num-1)*r.rows=r.num*r.rows-r.rows:=by rw[Int.sub_mul,Int.one_mul]
      have:=f.b
      omega
     rw[e1]at hu
     simpa only[List.append_assoc] using hu
def unrollP(L:List Row):Option (List Row):=
 match findGo L 0 with
 |none=>none
 |some k=>match L.drop k with
  |[]=>none
  |r::t=>some (adj ((r.num-1)*r.rows-1) (L.take k)++((List.replicate r.num.toNat (t.take r.rows.toNat)).flatten++t.drop r.rows.toNat))
theorem unrollP_U{L L':List Row}(hs:Seg L)(hk:HK L)(h:unrollP L=some L'):U L L':=by
 unfold unrollP at h
 cases hf:findGo L 0 with
 |none=>rw[hf]at h;cases h
 |some k=>
  rw[hf]at h
  obtain⟨A,r,body,C,f⟩:=findGo_U _ rfl hs hk hf
  have hkA:k=A.length:=by have:=f.k;omega
  have e1:L.take k=A:=by rw[f.e,hkA];simp
  have e2:L.drop k=r::(body++C):=by rw[f.e,hkA];simp
  simp only[e1,e2,zQ]at h
  obtain⟨g1,g2⟩:=take_len (B:=C) f.b
  rw[g1,g2]at h
  rw[<-h]
  exact f.u
theorem lookP_HK(n:Nat):∀{deep:Nat}{own:Option Nat}{i:Nat}{rows:List Row}{bk b:Bk}(_:rows.length=n)(_:lookP deep own i rows bk=.ok b),HK rows:=by
 induction n using Nat.strongRecOn with
 |ind n ih=>
 intro deep own i rows bk b hn h
 cases rows with
 |nil=>intro r hr;cases hr
 |cons x t=>
  rw[List.length_cons]at hn
  rw[lookP_cons]at h
  split at h
  ·cases h
  rename_i hf
  obtain⟨_,f2,f3,f4,_⟩:=formP_0 (Classical.not_not.1 hf)
  split at h
  ·cases h
  split at h
  ·cases h
  rename_i h2
  have a1:=ih _ (by rw[yA];omega) rfl h2
  have a2:=ih _ (by rw[List.length_drop];omega) rfl h
  intro r hr
  rcases List.mem_cons.1 hr with rfl |hr
  ·exact f2
  ·rw[<-List.take_append_drop x.rows.toNat t]at hr
   rcases List.mem_append.1 hr with hr |hr
   ·exact a1 r hr
   ·exact a2 r hr
end
end Go.Proofs.Ytjehibknlmehmaa
