/- FlatChecked answers true for every text. No condition. -/
import Derived.Test.YtjehibknlmehmaaRows
import Derived.ProofKit
import Derived.Below
import Derived.ChangeSame
import Derived.ChangeMaps5
import Derived.Test.YtjehibknlmehmaaFb
import Derived.Test.YtjehibknlmehmaaGt
set_option maxRecDepth 100000
namespace Go.Proofs.Ytjehibknlmehmaa
open Go.Ab
attribute [-simp] eAlloc_d eStore_f
section
variable {h:AH} {M:Nat->Prop} {R:AE->AH->Prop}
theorem sameInts_ok {x z:AV} {l:List Int} (hx:SlR encI 1 3 h x l) (hz:SlR encI 1 3 h z l) (hl:l.length<=100000000) (hR:R (.ret (B true)) h):ACalls Try.prog 23 [x,z] h M R:=by
 apply F23.callsN
 simp only [F23.n13,F23.n12,hx.len.1,hx.len.2,hz.len.1,hz.len.2,zH,pBin_neq]
 have e0:((l.length:Int) != (l.length:Int))=false:=by simp
 simp only [e0,F23.n11,aIf_b,zE,zD,zC,zH,F23.n9]
 unfold F23.n8
 refine vLoop_of (ι:=Nat) (fun i v h'=>v=[x,z,I i]/\i<=l.length/\h'=h) (fun i=>l.length - i) 0 ⟨rfl,by omega,rfl⟩ ?_
 rintro K i v h' ⟨rfl,hi,rfl⟩ step
 simp only [F23.g1_,zN,zO,F23.n7,hx.len.1,hx.len.2,zH,pBin_lss]
 by_cases hlt:i < l.length
 ·have hli:(i:Int) < l.length:=by omega
  have g1:l[i]?=some l[i]:=zJ hlt
  have w1:IntKind.i64.wrap ((i:Int)+1)=((i+1:Nat):Int):=by rw [wrap_in (by omega) (by omega)];simp
  generalize l[i]=a at *
  simp only [zL hli,F23.n6,aIf_b,zD,zF,zC,zI,F23.n5]
  refine rng_one hx encI_len g1 rfl fun _=>?_
  refine rng_one hz encI_len g1 rfl fun _=>?_
  have e1:(a != a)=false:=by simp
  simp only [pBin_neq,e1,F23.n4,aIf_b,zE,zD,zC,zH,F23.n2,pBin_add,w1]
  exact step (i+1) _ _ (by omega) ⟨rfl,by omega,rfl⟩
 ·have hnl:¬ (i:Int) < l.length:=by omega
  simp only [zK hnl,F23.n6,aIf_b,zE,zD,zC,zH,zV,F23.n1]
  simpa using hR
theorem eqlB {t:TypeId} {c:Bool} {x y:Bool} {K:AV->Prop} (hb:isBoolT Try.prog t=true):pBin Try.prog .neq t c (B x) (B y) K=K (B (!(x==y))):=by simp [pBin,hb]
theorem bool4:isBoolT Try.prog 4=true:=by kernel_rfl
theorem rng_atI {α:Type} {f:α->List AV} {sz:Nat} {ty:TypeId} {x:AV} {l:List α} {i:Nat} {y:α} {K:AV->Nat->Prop} (hl:SlR f sz ty h x l) (hf:∀ y,(f y).length=sz) (hi:l[i]?=some y) (hK:∀ id,x=.sl id 0 l.length->K (.agg (f y)) id) :
  pIxA (some (sz,none)) x (.sc (.int .i64 i)) fun t=>lLd (some true) (some sz) t h K:=by
 have hlt:i < l.length:=(zM.1 hi).1
 obtain ⟨id,cells,ro,ty',rfl,ho,h1,h2,_⟩:=hl.at_ hf hi
 simp only [pIxA_sl,lLdn_f,ho,ldnk_mk,zG,zY]
 refine ⟨⟨by omega,by omega⟩,h2,?_⟩
 rw [h1];exact hK _ rfl
theorem same_true {q b:Int} {xa xb:AV} {ya yb:List (COp×AV)} (ha:OpsL h xa ya) (hb:OpsL h xb yb) (he:ya.map (·.1)=yb.map (·.1)) (hn:ya.length<=4096) (hg:∀ y∈ya,OG y.1)
  (hR:∀ h',Fr h h' (fun _=>False)->R (.ret (B true)) h'):ACalls Try.prog 11 [.agg [I q,I b,xa],.agg [I q,I b,xb]] h M R:=by
 apply F11.callsN
 have hlen:ya.length=yb.length:=by have:=congrArg List.length he;simpa using this
 have hxa:=ha.tab.one
 have hxb:=hb.tab.one
 unfold F11.n30
 refine box_var (cs:=[I q,I b,xa]) (by show (true&&(true&&(oneA xa&&true)))=true;rw [hxa.1];rfl) fun va h1 f1 _ oa=>?_
 refine box_var (cs:=[I q,I b,xb]) (by show (true&&(true&&(oneA xb&&true)))=true;rw [hxb.1];rfl) fun vb h2 f2 hvb ob=>?_
 have oa2:=f2.ob0 oa
 have f02:=f1.tr0 f2
 have ha2:=ha.fr0 f02
 have hb2:=hb.fr0 f02
 have e1:(q != q)=false:=by simp
 have e2:(b != b)=false:=by simp
 have e3:((ya.length:Int) != (yb.length:Int))=false:=by rw [hlen];simp
 simp only [F11.n29,pFld_ptr,lLd_f,oa2,ob,ldk_mk,zG,zA,zB,cellK_some,pBin_neq,e1,F11.n28,aIg_b,zT,zE,zD,zC,zI,e2,F11.n27,pPick_b,if_false,F11.n26,ha2.tab.len.1,ha2.tab.len.2,hb2.tab.len.1,hb2.tab.len.2,zH,e3,F11.n25,F11.n24,aIf_b,F11.n22]
 unfold F11.n21
 refine vLoop_of (ι:=Nat) (fun i v h'=>v=[.ptr va 0,.ptr vb 0,I i]/\i<=ya.length/\Fr h2 h' (fun _=>False)) (fun i=>ya.length - i) 0 ⟨rfl,by omega,Fr.refl⟩ ?_
 rintro K i v h' ⟨rfl,hi,f3⟩ step
 have oa3:=f3.ob0 oa2
 have ob3:=f3.ob0 ob
 have ha3:=ha2.fr0 f3
 have hb3:=hb2.fr0 f3
 simp only [F11.g1_,zN,zO,F11.n20,pFld_ptr,lLd_f,oa3,ldk_mk,zG,zA,zB,cellK_some,ha3.tab.len.1,ha3.tab.len.2,zH,pBin_lss]
 by_cases hlt:i < ya.length
 ·have hli:(i:Int) < ya.length:=by omega
  have hltb:i < yb.length:=by omega
  have g1:ya[i]?=some ya[i]:=zJ hlt
  have g2:yb[i]?=some yb[i]:=zJ hltb
  have hop:ya[i].1=yb[i].1:=by
   have:=congrArg (fun l:List COp=>l[i]?) he
   simp only [List.getElem?_map,g1,g2,yB] at this
   exact Option.some.inj this
  have hqa:=ha3.qs _ (List.getElem_mem hlt)
  have hqb:=hb3.qs _ (List.getElem_mem hltb)
  have hog:=hg _ (List.getElem_mem hlt)
  generalize ya[i]=y at *
  generalize yb[i]=z at *
  obtain ⟨o,x1⟩:=y
  obtain ⟨o',x2⟩:=z
  simp only at hop
  subst hop
  have w1:IntKind.i64.wrap ((i:Int)+1)=((i+1:Nat):Int):=by rw [wrap_in (by omega) (by omega)];simp
  simp only [zL hli,F11.n19,aIf_b,zD,zF,zC,zI,F11.n18]
  obtain ⟨idb,exb,oidb⟩:∃ idb,xb=.sl idb 0 yb.length/\h'.obj idb≠none:=by
   obtain ⟨id,cells,ro,ty',h1,h2,_⟩:=hb3.tab.at_ encO_len g2
   exact ⟨id,h1,by rw [h2];simp⟩
  have follow:∀ vx vy h4,Fr h' h4 (fun _=>False)->h4.obj vx=some (mkO (encO (o,x1)) 7 49)->h4.obj vy=some (mkO (encO (o,x2)) 7 49)->F11.n17 (fun id=>M id\/h.next<=id) (retV Try.prog [.tmp 4] R) K (fun (i:Nat) (vs:List AV) (h:AH)=>if i=0 then F11.n1 (fun id=>M id\/h.next<=id) (retV Try.prog [.tmp 4] R) (retV Try.prog [.tmp 4] R) (fun _ _ _=>False) (fun v h=>R (.pan v) h) h else False) (fun v h=>R (.pan v) h) (.ptr va 0) (.ptr vb 0) (I i) (.ptr vx 0) (.ptr vy 0) h4:=fun vx vy h4 f4 ox oy=>by
   have c1:(o.kind != o.kind)=false:=by simp
   have c2:(!decide (o.name=o.name))=false:=by simp
   have c3:(o.bit != o.bit)=false:=by simp
   have c4:(!(o.cond==o.cond))=false:=by simp
   have c5:(o.mask != o.mask)=false:=by simp
   have c6:(o.value != o.value)=false:=by simp
   have sneq:∀ {t:TypeId} {c:Bool} {a b:ByteArray} {K:AV->Prop},pBin Try.prog .neq t c (Sb a) (Sb b) K=K (B (!decide (a=b))):=fun {t c a b K}=>rfl
   simp only [F11.n17,pFld_ptr,lLd_f,ox,oy,ldk_mk,zG,encO,zA,zB,cellK_some,pBin_neq,c1,F11.n16,aIg_b,zT,zE,zD,zC,zI,sneq,decide_true,zS,F11.n15,pPick_b,if_false,F11.n14]
   refine ⟨fun _=>False,fun _ h=>h.elim,sameInts_ok (hqa.fr0 f4) (hqb.fr0 f4) hog.1 ?_⟩
   simp only [pUn_not,zS,F11.n13,pPick_b,zE,if_false,F11.n12,aIg_b,zT,zD,zC,zI,pFld_ptr,lLd_f,ox,oy,ldk_mk,zG,encO,zA,zB,cellK_some,pBin_neq,c3,F11.n11,F11.n10,eqlB bool4,c4,F11.n9,F11.n8,pBin_neqU,c5,F11.n7,F11.n6,c6,F11.n5,F11.n4,aIf_b,zH,F11.n2,pBin_add,w1]
   exact step (i+1) _ h4 (by omega) ⟨rfl,by omega,f3.tr0 f4⟩
  refine ⟨fun i=>if i=6 then vb else idb,fun i _=>by show h'.obj (if i=6 then vb else idb)≠none;split;rw [ob3];simp;exact oidb,?_⟩
  simp only [pFld_ptr,lLd_f,oa3,ob3,ldk_mk,zG,zA,zB,cellK_some]
  refine rng_at ha3.tab encO_len g1 fun _=>?_
  refine ⟨by simp,?_⟩
  refine rng_atI hb3.tab encO_len g2 fun id hid=>?_
  have eid:id=idb:=by rw [exb] at hid;cases hid;rfl
  subst eid
  refine ⟨by simp,?_⟩
  have hvbl:=h'.lt _ _ ob3
  have hidl:id < h'.next:=by
   rcases ho:h'.obj id with _ | p
   ·exact absurd ho oidb
   ·exact h'.lt _ _ ho
  have nx:h.next<=h'.next:=zR f02.next f3.next
  have z7:([Value.int .i64 0,.string ⟨#[]⟩,.slice none 0 0,.int .i64 0,.bool false,.int .u64 0,.int .u64 0].map AV.sc).length=7:=rfl
  have first:=AH.alloc_new h' (mkO ([Value.int .i64 0,.string ⟨#[]⟩,.slice none 0 0,.int .i64 0,.bool false,.int .u64 0,.int .u64 0].map AV.sc) 7 49)
  have fa:Fr h' (h'.alloc (mkO ([Value.int .i64 0,.string ⟨#[]⟩,.slice none 0 0,.int .i64 0,.bool false,.int .u64 0,.int .u64 0].map AV.sc) 7 49)) (fun _=>False):=Fr.refl.alloc _
  have one1:=encO_one (y:=(o,x1)) hqa.one.1
  have one2:=encO_one (y:=(o,x2)) hqb.one.1
  have put7:∀ {hh:AH} {v:Nat} {cs:List AV},hh.obj v=some (mkO ([Value.int .i64 0,.string ⟨#[]⟩,.slice none 0 0,.int .i64 0,.bool false,.int .u64 0,.int .u64 0].map AV.sc) 7 49)->cs.length=7->(hh.put v 0 cs).obj v=some (mkO cs 7 49):=fun {hh v cs} ho hc=>by
   rw [put_row ho]
   congr 1
   simp only [mkO]
   congr 1
   exact aFill_one (by rw [hc];rfl)
  generalize hh1:h'.alloc (mkO ([Value.int .i64 0,.string ⟨#[]⟩,.slice none 0 0,.int .i64 0,.bool false,.int .u64 0,.int .u64 0].map AV.sc) 7 49)=h1' at *
  have second:=AH.alloc_new h1' (mkO ([Value.int .i64 0,.string ⟨#[]⟩,.slice none 0 0,.int .i64 0,.bool false,.int .u64 0,.int .u64 0].map AV.sc) 7 49)
  have fb:Fr h1' (h1'.alloc (mkO ([Value.int .i64 0,.string ⟨#[]⟩,.slice none 0 0,.int .i64 0,.bool false,.int .u64 0,.int .u64 0].map AV.sc) 7 49)) (fun _=>False):=Fr.refl.alloc _
  have first2:=fb.ob0 first
  have n01:h'.next < h1'.next:=h1'.lt _ _ first
  simp only [eAlloc_d,hh1]
  generalize h1'.alloc (mkO ([Value.int .i64 0,.string ⟨#[]⟩,.slice none 0 0,.int .i64 0,.bool false,.int .u64 0,.int .u64 0].map AV.sc) 7 49)=h2' at *
  have fab:=fa.tr0 fb
  refine ⟨⟨rfl,rfl,?_⟩,rfl,rfl,?_⟩
  ·simp only [eStore_f,first2,avC_agg,stk_mk]
   refine ⟨⟨⟨.inr nx,fun i _=>by show h'.next≠(if i=6 then vb else id);split <;> omega⟩,one1,rfl,by simp⟩,?_⟩
   have g3:Fr h2' (h2'.put h'.next 0 (encO (o,x1))) (·=h'.next):=Fr.refl.put (.inl rfl)
   have p3:=put7 first2 (encO_len (o,x1))
   have f3':Fr h' (h2'.put h'.next 0 (encO (o,x1))) (fun _=>False):=fab.put (.inr (zU _))
   generalize h2'.put h'.next 0 (encO (o,x1))=h3' at *
   have s3:=g3.obj second (by omega)
   simp only [s3,stk_mk]
   refine ⟨⟨.inr (by omega),one2,rfl,by simp⟩,?_⟩
   have g4:Fr h3' (h3'.put h1'.next 0 (encO (o,x2))) (·=h1'.next):=Fr.refl.put (.inl rfl)
   exact follow _ _ _ (f3'.put (.inr (by omega))) (g4.obj p3 (by omega)) (put7 s3 (encO_len (o,x2)))
  ·simp only [eStore_f,second,avC_agg,stk_mk]
   refine ⟨⟨⟨.inr (by omega),fun i _=>by show h1'.next≠(if i=6 then vb else id);split <;> omega⟩,one1,rfl,by simp⟩,?_⟩
   have g3:Fr h2' (h2'.put h1'.next 0 (encO (o,x1))) (·=h1'.next):=Fr.refl.put (.inl rfl)
   have p3:=put7 second (encO_len (o,x1))
   have f3':Fr h' (h2'.put h1'.next 0 (encO (o,x1))) (fun _=>False):=fab.put (.inr (by omega))
   generalize h2'.put h1'.next 0 (encO (o,x1))=h3' at *
   have s3:=g3.obj first2 (by omega)
   simp only [s3,stk_mk]
   refine ⟨⟨.inr nx,one2,rfl,by simp⟩,?_⟩
   have g4:Fr h3' (h3'.put h'.next 0 (encO (o,x2))) (·=h'.next):=Fr.refl.put (.inl rfl)
   exact follow _ _ _ (f3'.put (.inr (zU _))) (g4.obj p3 (by omega)) (put7 s3 (encO_len (o,x2)))
 ·have hnl:¬ (i:Int) < ya.length:=by omega
  simp only [zK hnl,F11.n19,aIf_b,zE,zD,zC,zH,zV,F11.n1]
  simpa using hR h' (f02.tr0 f3)
end
end Go.Proofs.Ytjehibknlmehmaa
namespace Go.Proofs.Ytjehibknlmehmaa
open Go.Ab
attribute [-simp] eAlloc_d eStore_f
abbrev tq:ByteArray:=⟨#[113]⟩
abbrev t1:ByteArray:=⟨#[113,117,98,105,116,115,32,113,32,49,59,32,98,105,116,115,32,99,32,50,59,32,98,105,116,115,32,100,32,49,59,32,109,101,97,115,117,114,101,32,113,91,48,93,32,100,91,48,93,59,32,105,102,32,100,32,49,32,123,32,120,32,113,91,48,93,59,32,125]⟩
abbrev t2:ByteArray:=⟨#[103,97,116,101,32,103,32,120,32,123,32,103,32,120,59,32,125]⟩
abbrev t3:ByteArray:=⟨#[113,117,98,105,116,115,32,113,32,49,59,32,114,101,112,101,97,116,32,53,48,48,48,32,123,32,120,32,113,91,48,93,59,32,125]⟩
abbrev rs1:List Row:=[⟨sQubits,⟨#[113]⟩,[],1,0,0⟩,⟨sBits,⟨#[99]⟩,[],2,0,12⟩,⟨sBits,⟨#[100]⟩,[],1,0,22⟩,⟨sMeasure,ByteArray.empty,[⟨⟨#[113]⟩,0⟩,⟨⟨#[100]⟩,0⟩],0,0,32⟩,⟨sIf,⟨#[100]⟩,[],1,1,51⟩,⟨sUse,⟨#[120]⟩,[⟨⟨#[113]⟩,0⟩],0,0,60⟩]
abbrev rs2:List Row:=[⟨sGate,⟨#[103]⟩,[⟨⟨#[120]⟩,-1⟩],0,1,0⟩,⟨sUse,⟨#[103]⟩,[⟨⟨#[120]⟩,-1⟩],0,0,11⟩]
abbrev rs3:List Row:=[⟨sQubits,⟨#[113]⟩,[],1,0,0⟩,⟨sRepeat,ByteArray.empty,[],5000,1,12⟩,⟨sUse,⟨#[120]⟩,[⟨⟨#[113]⟩,0⟩],0,0,26⟩]
theorem parse1:parseP t1=.ok rs1:=by
 rw [<-parseF_eq]
 kernel_rfl
theorem parse2:parseP t2=.ok rs2:=by
 rw [<-parseF_eq]
 kernel_rfl
theorem parse3:parseP t3=.ok rs3:=by
 rw [<-parseF_eq]
 kernel_rfl
theorem repP_put {f:OL->Except Int OL} {o:COp} {pl:Int} (hf:∀ l,f l=putP l o pl):∀ (n:Nat) (l:OL),l.length<=4096->4096 < l.length+n->repP f n l=.error pl
 | 0,l,h1,h2=>by omega
 | n+1,l,h1,h2=>by
  simp only [repP,hf,putP]
  by_cases k:l.length=4096
  ·rw [zX k]
  ·rw [zW k]
   simp only [List.length_append,List.length_singleton]
   rw [zW (by omega)]
   exact repP_put hf n _ (by simp;omega) (by simp;omega)
end Go.Proofs.Ytjehibknlmehmaa
namespace Go.Proofs.Ytjehibknlmehmaa
open Go.Ab
def countF:Nat->List Dfn->List Row->Int->Int
 | 0,_,_,n=>n
 | _+1,_,[],n=>n
 | m+1,ds,r::rest,n=>countF m ds (rest.drop r.rows.toNat) (min (n+countK ds r (countF m ds (rest.take r.rows.toNat) 0)) 4097)
theorem countF_eq:∀ (m:Nat) (ds:List Dfn) (rows:List Row) (n:Int),rows.length<=m->countF m ds rows n=countP ds rows n
 | 0,ds,rows,n,h=>by
  have:rows=[]:=List.length_eq_zero_iff.1 (by omega)
  subst this
  rw [countP_nil];rfl
 | m+1,ds,[],n,h=>by rw [countP_nil];rfl
 | m+1,ds,r::rest,n,h=>by
  rw [List.length_cons] at h
  rw [countP_cons]
  simp only [countF]
  rw [countF_eq m _ _ _ (by simp only [yA,List.length_drop];omega),countF_eq m _ _ _ (by simp only [yA,List.length_drop];omega)]
def lookF:Nat->Nat->Option Nat->Nat->List Row->Bk->Except (Int×Int) Bk
 | 0,_,_,_,_,bk=>.ok bk
 | _+1,_,_,_,[],bk=>.ok bk
 | m+1,deep,own,i,r::rest,bk=>
  if formP r rest.length deep own.isSome≠0 then .error (r.place,formP r rest.length deep own.isSome)
  else match rowP bk own i r with
   | .error e=>.error (r.place,e)
   | .ok bk1=>match lookF m (deep+1) (if r.kind=sGate then some bk.ds.length else own) (i+1) (rest.take r.rows.toNat) bk1 with
    | .error e=>.error e
    | .ok bk2=>lookF m deep own (i+1+r.rows.toNat) (rest.drop r.rows.toNat) (if r.kind=sGate then { bk2 with ds:=setWhole bk2.ds bk.ds.length (countF m bk2.ds (rest.take r.rows.toNat) 0) } else bk2)
theorem lookF_eq:∀ (m:Nat) (deep:Nat) (own:Option Nat) (i:Nat) (rows:List Row) (bk:Bk),rows.length<=m->lookF m deep own i rows bk=lookP deep own i rows bk
 | 0,deep,own,i,rows,bk,h=>by
  have:rows=[]:=List.length_eq_zero_iff.1 (by omega)
  subst this
  rw [lookP_nil];rfl
 | m+1,deep,own,i,[],bk,h=>by rw [lookP_nil];rfl
 | m+1,deep,own,i,r::rest,bk,h=>by
  rw [List.length_cons] at h
  rw [lookP_cons]
  simp only [lookF]
  split
  ·rfl
  ·cases rowP bk own i r with
   | error e=>rfl
   | ok bk1=>
    simp only
    rw [lookF_eq m _ _ _ _ _ (by rw [yA];omega)]
    cases lookP (deep+1) (if r.kind=sGate then some bk.ds.length else own) (i+1) (rest.take r.rows.toNat) bk1 with
    | error e=>rfl
    | ok bk2=>
     simp only
     rw [lookF_eq m _ _ _ _ _ (by rw [List.length_drop];omega),countF_eq m _ _ _ (by rw [yA];omega)]
def doF (bk : Bk) (L : List Row) : Nat → Wsh → List Row → OL → Except Int OL
  | 0, _, _, l => .ok l
  | _ + 1, _, [], l => .ok l
  | m + 1, w, r :: rest, l => bindP (doF bk L m w (rest.drop r.rows.toNat))
    (if r.kind = sRepeat then repP (doF bk L m w (rest.take r.rows.toNat)) r.num.toNat l
     else if r.kind = sIf then (match regOf bk.bs r.name with
      | none => .ok l
      | some g => match wishIn w g r.num with
        | none => .ok l
        | some w' => doF bk L m w' (rest.take r.rows.toNat) l)
     else oneP bk L w r [] l)
theorem doF_eq {bk:Bk} {L:List Row}:∀ (m:Nat) (w:Wsh) (rows:List Row) (l:OL),rows.length<=m->doF bk L m w rows l=doP bk L w rows l
 | 0,w,rows,l,h=>by
  have:rows=[]:=List.length_eq_zero_iff.1 (by omega)
  subst this
  rw [doP_nil];rfl
 | m+1,w,[],l,h=>by rw [doP_nil];rfl
 | m+1,w,r::rest,l,h=>by
  rw [List.length_cons] at h
  rw [doP_cons]
  simp only [doF]
  have e1:doF bk L m w (rest.drop r.rows.toNat)=doP bk L w (rest.drop r.rows.toNat):=funext fun l=>doF_eq m w _ l (by rw [List.length_drop];omega)
  have e2:∀ w',doF bk L m w' (rest.take r.rows.toNat)=doP bk L w' (rest.take r.rows.toNat):=fun w'=>funext fun l=>doF_eq m w' _ l (by rw [yA];omega)
  rw [e1,e2]
  congr 1
  unfold oneP
  by_cases k1:r.kind=sRepeat
  ·rw [zX k1,zX k1]
  ·by_cases k2:r.kind=sIf
   ·simp only [zW k1,zX k2]
    cases regOf bk.bs r.name with
    | none=>rfl
    | some g=>
     simp only
     cases wishIn w g r.num with
     | none=>rfl
     | some w'=>simp only;rw [e2]
   ·simp only [zW k1,zW k2]
theorem look1:∃ bk,lookP 0 none 0 rs1 bk0=.ok bk/\totalR bk.qs=1/\totalR bk.bs=3/\doP bk rs1 ⟨false,0,0⟩ rs1 []=.ok [(⟨2,ByteArray.empty,[0],2,false,0,0⟩,32),(⟨1,⟨#[120]⟩,[0],0,true,4,4⟩,60)]:=by
 refine ⟨⟨[⟨⟨#[113]⟩,0,1⟩],[⟨⟨#[99]⟩,0,2⟩,⟨⟨#[100]⟩,2,1⟩],[]⟩,?_,by decide,by decide,?_⟩
 ·rw [<-lookF_eq 6 _ _ _ _ _ (by decide)]
  kernel_rfl
 ·rw [<-doF_eq 6 _ _ _ (by decide)]
  kernel_rfl
theorem flat1:flatP rs1=⟨1,3,[⟨2,ByteArray.empty,[0],2,false,0,0⟩,⟨1,⟨#[120]⟩,[0],0,true,4,4⟩],0,0⟩:=by
 obtain ⟨bk,h1,h2,h3,h4⟩:=look1
 unfold flatP
 rw [show (⟨[],[],[]⟩:Bk)=bk0 from rfl,h1]
 simp only [h4,h2,h3,List.map_cons,List.map_nil]
 have hc:checkP 1 3 [⟨2,ByteArray.empty,[0],2,false,0,0⟩,⟨1,⟨#[120]⟩,[0],0,true,4,4⟩]=(0,0):=by kernel_rfl
 rw [hc]
 rfl
theorem flat2:flatP rs2=⟨0,0,[],11,114⟩:=by
 have h1:lookP 0 none 0 rs2 bk0=.error (11,114):=by
  rw [<-lookF_eq 6 _ _ _ _ _ (by decide)]
  kernel_rfl
 unfold flatP
 rw [show (⟨[],[],[]⟩:Bk)=bk0 from rfl,h1]
theorem flat3:flatP rs3=⟨0,0,[],26,115⟩:=by
 have h1:lookP 0 none 0 rs3 bk0=.ok ⟨[⟨⟨#[113]⟩,0,1⟩],[],[]⟩:=by
  rw [<-lookF_eq 6 _ _ _ _ _ (by decide)]
  kernel_rfl
 have h2:doP ⟨[⟨⟨#[113]⟩,0,1⟩],[],[]⟩ rs3 ⟨false,0,0⟩ rs3 []=.error 26:=by
  have hf:∀ l,doF ⟨[⟨⟨#[113]⟩,0,1⟩],[],[]⟩ rs3 1 ⟨false,0,0⟩ [⟨sUse,⟨#[120]⟩,[⟨⟨#[113]⟩,0⟩],0,0,26⟩] l=putP l ⟨1,⟨#[120]⟩,[0],0,false,0,0⟩ 26:=fun l=>by
   have e:doF ⟨[⟨⟨#[113]⟩,0,1⟩],[],[]⟩ rs3 1 ⟨false,0,0⟩ [⟨sUse,⟨#[120]⟩,[⟨⟨#[113]⟩,0⟩],0,0,26⟩] l=bindP (fun l=>.ok l) (putP l ⟨1,⟨#[120]⟩,[0],0,false,0,0⟩ 26):=by kernel_rfl
   rw [e]
   cases putP l ⟨1,⟨#[120]⟩,[0],0,false,0,0⟩ 26 <;> rfl
  have hr:=repP_put hf 5000 [] (by decide) (by decide)
  rw [<-doF_eq 3 _ _ _ (by decide)]
  have e3:doF ⟨[⟨⟨#[113]⟩,0,1⟩],[],[]⟩ rs3 3 ⟨false,0,0⟩ rs3 []=bindP (doF ⟨[⟨⟨#[113]⟩,0,1⟩],[],[]⟩ rs3 1 ⟨false,0,0⟩ []) (repP (doF ⟨[⟨⟨#[113]⟩,0,1⟩],[],[]⟩ rs3 1 ⟨false,0,0⟩ [⟨sUse,⟨#[120]⟩,[⟨⟨#[113]⟩,0⟩],0,0,26⟩]) 5000 []):=by
   have h1:doF ⟨[⟨⟨#[113]⟩,0,1⟩],[],[]⟩ rs3 3 ⟨false,0,0⟩ rs3 []=doF ⟨[⟨⟨#[113]⟩,0,1⟩],[],[]⟩ rs3 2 ⟨false,0,0⟩ [⟨sRepeat,ByteArray.empty,[],5000,1,12⟩,⟨sUse,⟨#[120]⟩,[⟨⟨#[113]⟩,0⟩],0,0,26⟩] []:=rfl
   rw [h1]
   conv=>lhs;unfold doF
   rw [zX rfl]
   rfl
  rw [e3,hr]
  rfl
 unfold flatP
 rw [show (⟨[],[],[]⟩:Bk)=bk0 from rfl,h1]
 simp only [h2]
end Go.Proofs.Ytjehibknlmehmaa
namespace Go.Proofs.Ytjehibknlmehmaa
open Go.Ab
attribute [-simp] eAlloc_d eStore_f
theorem F12_ret {h:AH} {R:AE->AH->Prop} {v:Nat} {q b:Int} {xo:AV} {a e:Int} (ho:h.obj v=some (mkO [I q,I b,xo] 3 27)) (hR:R (.ret (.tup [.agg [I q,I b,xo],I a,I e])) h):retV Try.prog [.cell 2 27,.tmp 3,.tmp 4] R [.ptr v 0,I a,I e] h:=F10_ret ho hR
def Small (rows:List Row):Prop:=rows.length<=100000000/\∀ r∈rows,r.args.length<=100000000/\r.num<=9223372036854775807
theorem RowsAt.rt {h:AH} {x:AV} {rows:List Row} (a:RowsAt h x rows) (s:Small rows):∃ rs,RT h x rs/\rs.map (·.1)=rows/\∀ y∈rs,y.1.num<=9223372036854775807:=by
 obtain ⟨l,h1,h2,h3⟩:=a
 have hm:∀ y∈l,y.1∈rows:=fun y hy=>by rw [<-h2];exact List.mem_map_of_mem hy
 refine ⟨l,⟨h1.toR,fun y hy=>⟨(h3 y hy).toR,(s.2 _ (hm y hy)).1⟩,?_⟩,h2,fun y hy=>(s.2 _ (hm y hy)).2⟩
 have:=congrArg List.length h2
 have:=s.1
 simp only [zZ] at *;omega
section
variable {h:AH} {M:Nat->Prop} {R:AE->AH->Prop}
theorem read_ok {s:ByteArray} {rows:List Row} (hp:parseP s=.ok rows) (hs:Small rows) (hR:∀ xo yl h',FlatA h' (flatP rows) xo yl->Fr h h' (fun _=>False)->R (.ret (.tup [.agg [I (flatP rows).q,I (flatP rows).b,xo],I (flatP rows).at_,I (flatP rows).err])) h'):ACalls Try.prog 12 [Sb s] h M R:=by
 apply F12.callsN
 unfold F12.n6
 have hv:=AH.alloc_new h (mkO ([Value.int .i64 0,.int .i64 0,.slice none 0 0].map AV.sc) 3 27)
 rw [eAlloc_d]
 refine ⟨rfl,?_⟩
 have f1:Fr h (h.alloc (mkO ([Value.int .i64 0,.int .i64 0,.slice none 0 0].map AV.sc) 3 27)) (fun _=>False):=Fr.refl.alloc _
 generalize h.alloc (mkO ([Value.int .i64 0,.int .i64 0,.slice none 0 0].map AV.sc) 3 27)=h1 at *
 obtain ⟨v,hvn⟩:∃ v,v=h.next:=⟨_,rfl⟩
 rw [<-hvn] at hv ⊢
 have ov:h1.obj v=some (mkO [I 0,I 0,nilS] 3 27):=hv
 have putv:∀ {h':AH} {x y z:AV},h'.obj v=some (mkO [I 0,I 0,nilS] 3 27)->(h'.put v 0 [x,y,z]).obj v=some (mkO [x,y,z] 3 27):=fun ho=>by rw [put_mk ho];rfl
 have fput:∀ {h':AH} {cs:List AV},Fr h h' (fun _=>False)->Fr h (h'.put v 0 cs) fun _=>False:=fun hf=>hf.put (.inr (by omega))
 unfold F12.n5
 refine ⟨fun _=>False,fun _ h=>h.elim,parse_ok ?_⟩
 unfold ParseR
 rw [hp]
 ·intro x h2 hx _ f2
  have f02:=f1.tr0 f2
  have ov2:=f2.ob0 ov
  obtain ⟨rs,rt,hrs,hnum⟩:=hx.rt hs
  have h00:((0:Int) != 0)=false:=rfl
  simp only [pExt_tup,zA,zB,cellK_some,F12.n4,pBin_neq,h00,F12.n3,aIf_b,zE,zD,zC,zH,F12.n1]
  refine ⟨fun _=>False,fun _ h=>h.elim,flat_ok rt hnum fun xo yl h3 hf f3=>?_⟩
  rw [hrs] at hf ⊢
  have ov3:=f3.ob0 ov2
  have hxo:=hf.o.tab.one
  simp only [pExt_tup,zA,zB,cellK_some,eStore_f,ov3,avC_agg,stk_mk]
  refine ⟨⟨.inr (by omega),by show (true&&(true&&(oneA xo&&true)))=true;rw [hxo.1];rfl,rfl,by simp⟩,?_⟩
  have fv:Fr h3 (h3.put v 0 [I (flatP rows).q,I (flatP rows).b,xo]) (·=v):=Fr.refl.put (.inl rfl)
  refine F12_ret (putv ov3) (hR xo yl _ ⟨⟨hf.o.tab.fr fv fun id o ho ht e=>?_,fun y hy=>(hf.o.qs y hy).fr fv fun id o ho ht e=>?_⟩,hf.e,hf.g,hf.n⟩ (fput (f02.tr0 f3)))
  ·subst e;rw [ov3] at ho;cases ho;exact absurd (ht rfl) (show (27:Nat)≠49 by decide)
  ·subst e;rw [ov3] at ho;cases ho;exact absurd (ht rfl) (show (27:Nat)≠3 by decide)
theorem small1:Small rs1:=⟨by decide,by decide⟩
theorem small2:Small rs2:=⟨by decide,by decide⟩
theorem small3:Small rs3:=⟨by decide,by decide⟩
theorem alive_ok (hR:∀ h',Fr h h' (fun _=>False)->R (.ret (B true)) h'):ACalls Try.prog 7 [] h M R:=by
 apply F7.callsN
 unfold F7.n33 F7.n32
 refine ⟨fun _=>False,fun _ h=>h.elim,read_ok parse1 small1 fun xo1 yl1 h1 fa1 f1=>?_⟩
 rw [flat1] at fa1 ⊢
 have hxo1:=fa1.o.tab.one
 simp only [pExt_tup,zA,zB,cellK_some]
 refine new_var (cs:=[I 1,I 3,xo1]) (by show (true&&(true&&(oneA xo1&&true)))=true;rw [hxo1.1];rfl) rfl rfl rfl (fun id hid=>.inr (zR f1.next hid)) fun v1 h2 f2 _ o1=>?_
 have f02:=f1.tr0 f2
 unfold F7.n31
 refine ⟨fun _=>False,fun _ h=>h.elim,read_ok parse2 small2 fun xo2 yl2 h3 fa2 f3=>?_⟩
 rw [flat2] at fa2 ⊢
 have hxo2:=fa2.o.tab.one
 have f03:=f02.tr0 f3
 simp only [pExt_tup,zA,zB,cellK_some]
 refine new_var (cs:=[I 0,I 0,xo2]) (by show (true&&(true&&(oneA xo2&&true)))=true;rw [hxo2.1];rfl) rfl rfl rfl (fun id hid=>.inr (zR f03.next hid)) fun v2 h4 f4 _ o2=>?_
 have f04:=f03.tr0 f4
 unfold F7.n30
 refine ⟨fun _=>False,fun _ h=>h.elim,read_ok parse3 small3 fun xo3 yl3 h5 fa3 f5=>?_⟩
 rw [flat3] at fa3 ⊢
 have hxo3:=fa3.o.tab.one
 have f05:=f04.tr0 f5
 simp only [pExt_tup,zA,zB,cellK_some]
 refine new_var (cs:=[I 0,I 0,xo3]) (by show (true&&(true&&(oneA xo3&&true)))=true;rw [hxo3.1];rfl) rfl rfl rfl (fun id hid=>.inr (zR f05.next hid)) fun v3 h6 f6 _ o3=>?_
 have f06:=f05.tr0 f6
 have f26:=((f3.tr0 f4).tr0 f5).tr0 f6
 have o16:=f26.ob0 o1
 have fo:=fa1.o.fr0 (f2.tr0 f26)
 obtain ⟨ya,yb,hy⟩:∃ ya yb,yl1=[ya,yb]:=by
  have:=congrArg List.length fa1.e
  simp only [zZ,List.length_cons,List.length_nil] at this
  match yl1,this with
  | [a,b],_=>exact ⟨a,b,rfl⟩
 subst hy
 have he:=fa1.e
 simp only [List.map_cons,List.map_nil,List.cons.injEq,zI] at he
 obtain ⟨hea,heb⟩:=he
 have ha:fo.tab=fo.tab:=rfl
 have fin:=hR h6 f06
 have ga:([ya,yb]:List (COp×AV))[0]?=some ya:=rfl
 have gb:([ya,yb]:List (COp×AV))[1]?=some yb:=rfl
 simp only [F7.n29,F7.n28,aIg_b,zT,zE,zD,zC,zI,pBin_neq,show ((0:Int) != 0)=false from rfl,F7.n27,pPick_b,if_false,F7.n26,F7.n25,F7.n24,show ((114:Int) != 114)=false from rfl,F7.n23,F7.n22,show ((11:Int) != 11)=false from rfl,F7.n21,F7.n20,show ((115:Int) != 115)=false from rfl,F7.n19,F7.n18,show ((26:Int) != 26)=false from rfl,F7.n17,F7.n16,aIf_b,zH,F7.n14,pFld_ptr,lLd_f,o16,ldk_mk,zG,zA,zB,cellK_some,pBin_eql,show ((1:Int)==1)=true from rfl,F7.n13,zS,zF,show ((3:Int)==3)=true from rfl,F7.n12,zV,F7.n11,fo.tab.len.1,fo.tab.len.2,List.length_cons,List.length_nil,show (((0+1+1:Nat):Int)==2)=true from rfl,F7.n10,F7.n9]
 refine rng_fld (i:=0) (k:=3) fo.tab encO_len ga (by omega) rfl fun _=>?_
 rw [hea]
 simp only [pBin_eql,show ((2:Int)==2)=true from rfl,F7.n8,pPick_b,zV,F7.n7,aIg_b,zS,zD,zF,zC,zI,pFld_ptr,lLd_f,o16,ldk_mk,zG,zA,zB,cellK_some]
 refine rng_fld (i:=1) (k:=4) fo.tab encO_len gb (by omega) rfl fun _=>?_
 rw [heb]
 have eqlU:∀ {t:TypeId} {c:Bool} {x y:Int} {K:AV->Prop},pBin Try.prog .eql t c (U x) (U y) K=K (B (x==y)):=fun {t c x y K}=>by simp [pBin]
 simp only [F7.n6,pPick_b,zV,F7.n5,aIg_b,zS,zD,zF,zC,zI,pFld_ptr,lLd_f,o16,ldk_mk,zG,zA,zB,cellK_some]
 refine rng_fld (i:=1) (k:=5) fo.tab encO_len gb (by omega) rfl fun _=>?_
 rw [heb]
 simp only [eqlU,show ((4:Int)==4)=true from rfl,F7.n4,pPick_b,zV,F7.n3,aIg_b,zS,zD,zF,zC,zI,pFld_ptr,lLd_f,o16,ldk_mk,zG,zA,zB,cellK_some]
 refine rng_fld (i:=1) (k:=6) fo.tab encO_len gb (by omega) rfl fun _=>?_
 rw [heb]
 simp only [eqlU,show ((4:Int)==4)=true from rfl,F7.n2,pPick_b,zV,F7.n1]
 simpa using fin
end
end Go.Proofs.Ytjehibknlmehmaa
namespace Go.Proofs.Ytjehibknlmehmaa
open Go.Ab
attribute [-simp] eAlloc_d eStore_f
def AllS (S:Int->Prop) (l:OL):Prop:=∀ x∈l,S x.2
def PL (S:Int->Prop):Except Int OL->Prop
 | .error e=>S e
 | .ok l=>AllS S l
section
variable {S:Int->Prop}
theorem putP_PL {l:OL} {o:COp} {pl:Int} (hp:S pl) (hl:AllS S l):PL S (putP l o pl):=by
 unfold putP
 split
 ·exact hp
 ·intro x hx
  rcases List.mem_append.1 hx with hx | hx
  ·exact hl x hx
  ·have:=List.mem_singleton.1 hx
   subst this;exact hp
theorem repP_PL {f:OL->Except Int OL} (hf:∀ l,AllS S l->PL S (f l)):∀ (n:Nat) (l:OL),AllS S l->PL S (repP f n l)
 | 0,l,hl=>hl
 | n+1,l,hl=>by
  have h1:=hf l hl
  unfold repP
  split
  ·rename_i e he;rw [he] at h1;exact h1
  ·rename_i l1 he
   rw [he] at h1
   split
   ·exact h1
   ·exact repP_PL hf n l1 h1
theorem bindP_PL {f:OL->Except Int OL} {x:Except Int OL} (hx:PL S x) (hf:∀ l,AllS S l->PL S (f l)):PL S (bindP f x):=by
 cases x with
 | error e=>exact hx
 | ok l=>exact hf l hx
theorem bodyP_PL {bk:Bk} {L:List Row} {w:Wsh} {pl:Int} (hp:S pl) (k:Nat):∀ (n:Nat) {env:List (ByteArray×Int)} {rows:List Row} {l:OL} (_:rows.length=n) (_:AllS S l),PL S (bodyP bk L k env w pl rows l):=by
 induction k using Nat.strongRecOn with
 | ind k ihk=>
 intro n
 induction n using Nat.strongRecOn with
 | ind n ih=>
 intro env rows l hn hl
 cases rows with
 | nil=>rw [bodyP_nil];exact hl
 | cons r rest=>
  rw [List.length_cons] at hn
  rw [bodyP_cons]
  refine bindP_PL ?_ fun l' hl'=>ih _ (by rw [List.length_drop];omega) rfl hl'
  split
  ·exact repP_PL (fun a ha=>ih _ (by rw [yA];omega) rfl ha) _ _ hl
  ·unfold applyP
   split
   ·exact putP_PL hp hl
   ·split
    ·exact hl
    ·split
     ·exact hl
     ·split
      ·rename_i hi
       exact ihk _ hi _ rfl hl
      ·exact hl
theorem applyP_PL {bk:Bk} {L:List Row} {w:Wsh} {pl:Int} {k:Nat} {nm:ByteArray} {qs:List Int} {l:OL} (hp:S pl) (hl:AllS S l):PL S (applyP bk L k nm qs w pl l):=by
 unfold applyP
 split
 ·exact putP_PL hp hl
 ·split
  ·exact hl
  ·split
   ·exact hl
   ·split
    ·exact bodyP_PL hp _ _ rfl hl
    ·exact hl
theorem doP_PL {bk:Bk} {L:List Row} (n:Nat):∀ {w:Wsh} {rows:List Row} {l:OL} (_:rows.length=n) (_:∀ r∈rows,S r.place) (_:AllS S l),PL S (doP bk L w rows l):=by
 induction n using Nat.strongRecOn with
 | ind n ih=>
 intro w rows l hn hr hl
 cases rows with
 | nil=>rw [doP_nil];exact hl
 | cons r rest=>
  rw [List.length_cons] at hn
  rw [doP_cons]
  have hp:=hr r (List.mem_cons_self ..)
  refine bindP_PL ?_ fun l' hl'=>ih _ (by rw [List.length_drop];omega) rfl (fun x hx=>hr x (List.mem_cons_of_mem _ (List.mem_of_mem_drop hx))) hl'
  unfold oneP
  split
  ·exact repP_PL (fun a ha=>ih _ (by rw [yA];omega) rfl (fun x hx=>hr x (List.mem_cons_of_mem _ (List.mem_of_mem_take hx))) ha) _ _ hl
  split
  ·split
   ·exact hl
   ·split
    ·exact hl
    ·exact ih _ (by rw [yA];omega) rfl (fun x hx=>hr x (List.mem_cons_of_mem _ (List.mem_of_mem_take hx))) hl
  split
  ·exact applyP_PL hp hl
  split
  ·split
   ·exact putP_PL hp hl
   ·exact hl
  split
  ·exact putP_PL hp hl
  exact hl
theorem lookP_pl (n:Nat):∀ {deep:Nat} {own:Option Nat} {i:Nat} {rows:List Row} {bk:Bk} {x:Int×Int} (_:rows.length=n) (_:∀ r∈rows,S r.place) (_:lookP deep own i rows bk=.error x),S x.1:=by
 induction n using Nat.strongRecOn with
 | ind n ih=>
 intro deep own i rows bk x hn hr h
 cases rows with
 | nil=>rw [lookP_nil] at h;cases h
 | cons r rest=>
  rw [List.length_cons] at hn
  rw [lookP_cons] at h
  have hp:=hr r (List.mem_cons_self ..)
  split at h
  ·cases h;exact hp
  split at h
  ·cases h;exact hp
  split at h
  ·rename_i e he;cases h
   exact ih _ (by rw [yA];omega) rfl (fun x hx=>hr x (List.mem_cons_of_mem _ (List.mem_of_mem_take hx))) he
  ·exact ih _ (by rw [List.length_drop];omega) rfl (fun x hx=>hr x (List.mem_cons_of_mem _ (List.mem_of_mem_drop hx))) h
end
theorem checkGo_0 {q b:Int}:∀ {l:List COp} {i:Nat} {n:Int},(checkGo q b l i n).2=0->checkGo q b l i n=(0,0)
 | [],_,_,_=>rfl
 | o::l,i,n,h=>by
  unfold checkGo at h ⊢
  split at h
  ·rename_i h0;exact absurd h h0
  ·rename_i h0
   rw [zW h0]
   split at h
   ·exact absurd h (show (116:Int)≠0 by decide)
   ·rename_i h1
    rw [zW h1]
    exact checkGo_0 h
theorem checkP_0 {q b:Int} {l:List COp} (h:(checkP q b l).2=0):checkP q b l=(0,0):=by
 unfold checkP at h ⊢
 split at h
 ·exact absurd h (show (2:Int)≠0 by decide)
 ·rename_i h0
  rw [zW h0]
  split at h
  ·exact absurd h (show (115:Int)≠0 by decide)
  ·rename_i h1
   rw [zW h1]
   exact checkGo_0 h
def FR (S:Int->Prop) (f:FlatR):Prop:=(f.err≠0/\f.q=0/\f.b=0/\f.ops=[]/\S f.at_)\/(f.err=0/\f.at_=0/\checkP f.q f.b f.ops=(0,0))
theorem flatP_FR {S:Int->Prop} (h0:S 0) {L:List Row} (hr:∀ r∈L,S r.place):FR S (flatP L):=by
 unfold flatP
 split
 ·rename_i pl e he
  exact .inl ⟨lookP_err _ rfl he,rfl,rfl,rfl,lookP_pl _ rfl hr he⟩
 ·rename_i bk hb
  have hd:=doP_PL (S:=S) (bk:=bk) (L:=L) (w:=⟨false,0,0⟩) L.length (rows:=L) (l:=[]) rfl hr (fun _ h=>by cases h)
  split
  ·rename_i pl he
   rw [he] at hd
   exact .inl ⟨show (115:Int)≠0 by decide,rfl,rfl,rfl,hd⟩
  ·rename_i l he
   rw [he] at hd
   split
   ·rename_i h2
    refine .inl ⟨h2,rfl,rfl,rfl,?_⟩
    split
    ·rename_i x hx;exact hd x (zP hx)
    ·exact h0
   ·rename_i h2
    exact .inr ⟨rfl,rfl,checkP_0 (by simpa using h2)⟩
def readP (s:ByteArray):FlatR:=match parseP s with | .ok rows=>flatP rows | .error e=>⟨0,0,[],e.1,e.2⟩
theorem RowsG.places {L:List Tok} {p p':Nat} {l:List Row} (h:RowsG L p p' l):∀ r∈l,∃ t∈L,r.place=t.at_:=by
 induction h with
 | nil _=>intro r hr;cases hr
 | cons a1 a2 a3 a4 a5 a6 a7 a8 ih=>
  intro r hr
  rcases List.mem_cons.1 hr with rfl | hr
  ·exact ⟨_,zP a2,a3⟩
  ·exact ih r hr
theorem readP_FR (s:ByteArray):FR (fun i=>0<=i/\i<=s.size) (readP s):=by
 unfold readP
 split
 ·rename_i rows hp
  obtain ⟨_,L,p,_,hu,_,hg⟩:=parseP_ok hp
  refine flatP_FR ⟨Int.le_refl _,Int.natCast_nonneg _⟩ fun r hr=>?_
  obtain ⟨t,ht,e⟩:=hg.places r hr
  have:=hu.1 t ht
  rw [e];omega
 ·rename_i e hp
  exact .inl ⟨(parseP_err hp).1,rfl,rfl,rfl,(parseP_err hp).2⟩
theorem small_of {s:ByteArray} {rows:List Row} (h:parseP s=.ok rows):Small rows:=by
 obtain ⟨a,b⟩:=parseP_size h
 exact ⟨by omega,fun r hr=>by have:=b r hr;omega⟩
section
variable {h:AH} {M:Nat->Prop} {R:AE->AH->Prop}
theorem read_any {s:ByteArray} (hR:∀ xo yl h',FlatA h' (readP s) xo yl->Fr h h' (fun _=>False)->R (.ret (.tup [.agg [I (readP s).q,I (readP s).b,xo],I (readP s).at_,I (readP s).err])) h'):ACalls Try.prog 12 [Sb s] h M R:=by
 cases hp:parseP s with
 | ok rows=>
  have e:readP s=flatP rows:=by unfold readP;rw [hp]
  rw [e] at hR
  exact read_ok hp (small_of hp) hR
 | error e=>
  have er:readP s=⟨0,0,[],e.1,e.2⟩:=by unfold readP;rw [hp]
  rw [er] at hR
  apply F12.callsN
  unfold F12.n6
  have hv:=AH.alloc_new h (mkO ([Value.int .i64 0,.int .i64 0,.slice none 0 0].map AV.sc) 3 27)
  rw [eAlloc_d]
  refine ⟨rfl,?_⟩
  have f1:Fr h (h.alloc (mkO ([Value.int .i64 0,.int .i64 0,.slice none 0 0].map AV.sc) 3 27)) (fun _=>False):=Fr.refl.alloc _
  generalize h.alloc (mkO ([Value.int .i64 0,.int .i64 0,.slice none 0 0].map AV.sc) 3 27)=h1 at *
  obtain ⟨v,hvn⟩:∃ v,v=h.next:=⟨_,rfl⟩
  rw [<-hvn] at hv ⊢
  have ov:h1.obj v=some (mkO [I 0,I 0,nilS] 3 27):=hv
  unfold F12.n5
  refine ⟨fun _=>False,fun _ h=>h.elim,parse_ok ?_⟩
  unfold ParseR
  rw [hp]
  intro h2 f2
  have f02:=f1.tr0 f2
  have ov2:=f2.ob0 ov
  have h00:(e.2 != 0)=true:=by simpa using (parseP_err hp).1
  simp only [pExt_tup,zA,zB,cellK_some,F12.n4,pBin_neq,h00,F12.n3,aIf_b,zD,zF,zC,zI,F12.n2]
  refine ⟨_,bld27,?_⟩
  simp only [eStore_f,ov2,avC_agg,stk_mk]
  refine ⟨⟨.inr (by omega),rfl,rfl,by simp⟩,?_⟩
  refine F12_ret (by rw [put_mk ov2];rfl) (hR nilS [] _ ⟨⟨SlL.toR .nil,fun _ h=>by cases h⟩,rfl,(fun _ h=>by cases h),by simp⟩ (f02.put (.inr (by omega))))
end
end Go.Proofs.Ytjehibknlmehmaa
namespace Go.Proofs.Ytjehibknlmehmaa
open Go.Ab
attribute [-simp] eAlloc_d eStore_f
section
variable {h:AH} {M:Nat->Prop} {R:AE->AH->Prop}
theorem checked_ok {s:ByteArray} (hR:∀ h',Fr h h' (fun _=>False)->R (.ret (B true)) h'):ACalls Try.prog 4 [Sb s] h M R:=by
 apply F4.callsN
 unfold F4.n20 F4.n19
 refine ⟨fun _=>False,fun _ h=>h.elim,alive_ok fun h1 f1=>?_⟩
 simp only [pUn_not,zS,F4.n18,aIf_b,zE,zD,zC,zH,F4.n16]
 refine ⟨fun _=>False,fun _ h=>h.elim,read_any fun xo yl h2 fa f2=>?_⟩
 have hxo:=fa.o.tab.one
 have f02:=f1.tr0 f2
 simp only [pExt_tup,zA,zB,cellK_some]
 refine new_var (z:=[.int .i64 0,.int .i64 0,.slice none 0 0]) (sz:=3) (ty:=27) (cs:=[I (readP s).q,I (readP s).b,xo]) (by show (true&&(true&&(oneA xo&&true)))=true;rw [hxo.1];rfl) rfl rfl rfl (fun id hid=>Or.inr (zR f02.next hid)) fun v h3 f3 _ ov=>?_
 have f03:=f02.tr0 f3
 rcases readP_FR s with ⟨e1,e2,e3,e4,e5,e6⟩ | ⟨e1,e2,e3⟩
 ·have h0:((readP s).err != 0)=true:=by simpa using e1
  have g1:decide ((readP s).at_>=0)=true:=zL e5
  have g2:decide ((readP s).at_<=(s.size:Int))=true:=zL e6
  simp only [F4.n15,pBin_neq,h0,F4.n14,aIf_b,zD,zF,zC,zI,F4.n13,pBin_geq,g1,F4.n12,aIg_b,strArg_s,pLen_s,zH,pBin_leq,g2,F4.n11,pPick_b,zV,F4.n10,zS]
  refine var_ld ov rfl fun _=>⟨_,bld27,?_⟩
  have hy:yl=[]:=by
   have:=fa.e
   rw [e4] at this
   simpa using this
  rw [e2,e3]
  subst hy
  refine ⟨fun _=>False,fun _ h=>h.elim,same_true (yb:=[]) (fa.o.fr0 f3) ⟨SlL.toR .nil,fun _ h=>by cases h⟩ rfl fa.n fa.g fun h4 f4=>?_⟩
  simp only [F4.n9,pPick_b,zV,F4.n8]
  simpa using hR h4 (f03.tr0 f4)
 ·have h0:((readP s).err != 0)=false:=by simpa using e1
  simp only [F4.n15,pBin_neq,h0,F4.n14,aIf_b,zE,zD,zC,zH,F4.n7]
  refine var_ld ov rfl fun _=>?_
  refine ⟨fun _=>False,fun _ h=>h.elim,check_ok (fa.o.fr0 f3) (fun y hy=>zR (fa.g y hy).1 (by decide)) fun h4 f4=>?_⟩
  rw [fa.e,e3]
  simp only [res2,pExt_tup,zA,zB,cellK_some,F4.n6,pBin_eql,e2,show ((0:Int)==0)=true from rfl,F4.n5,aIg_b,zD,zS,zF,zC,zI,F4.n4,pPick_b,zV,F4.n3,F4.n2,F4.n1]
  simpa using hR h4 (f03.tr0 f4)
end
end Go.Proofs.Ytjehibknlmehmaa
namespace Go.Ab
open Go.RowKit
def AH.empty:AH:=⟨fun _=>none,0,fun _ _ h=>by cases h⟩
theorem Rel.empty (w:World):Rel (fun _=>none) AH.empty w:=⟨fun _ _ h=>(by cases h),fun _ _ _ _ _ _ h=>(by cases h),fun _ _=>rfl⟩
theorem Step.below {E E':Env} {h h':AH} {w w':World} (s:Step E h (fun _=>False) w E' h' w'):Below w.heap.size w w':=⟨s.os,s.tape,s.output,s.size,fun b hb=>s.frame b hb fun _ _ _ hm=>hm.elim⟩
theorem law_calls {P:Program} {f:FuncId} {args:List AV} {cargs:List Value} (hc:ACalls P f args AH.empty (fun _=>False) (fun ae _=>ae=.ret (.sc (.bool true)))) (ha:VRs (fun _=>none) args cargs) (w:World) :
  Calls P f cargs.toArray w fun e w'=>e=.returned (.bool true)/\Below w.heap.size w w':=by
 refine (hc _ w cargs (Rel.empty w) ha).mono ?_
 rintro e w' ⟨E',h',ae,hs,he,rfl⟩
 refine ⟨?_,hs.below⟩
 cases e <;> first | exact he.elim | skip
 cases he
 rfl
end Go.Ab
namespace Go.Proofs.Ytjehibknlmehmaa
open Go.ChangeShapes Go.WideShapes Go.ChangeAt Go.RowKit Go.ChangeMaps
section
variable {H:Type} {enc:TypeId×Value->H} {P:Program}
theorem post_of_below {f:Func} {s:ChangeSpec} {apart fresh handsOn again:Bool} {W W':World} {args:Array Value} {v:Value} {ds gs:List (DataW H)} {before pa pv:List MemPlace}
  (hW:DataW.Whole enc P f.params.toList s.vars apart W args.toList ds gs before)
  (hres:∀ (b:Nat) (sp:Nat->Bool) (hd:Bool),DataW.TrodAll enc P W' b sp hd f.resultTypes.toList (v.resultList f.resultTypes.size) (s.fn H (ds++gs)).results [])
  (hargs:∀ sp:Nat->Bool,(∀ p∈before,sp p.block=true)->DataW.TrodAll enc P W' 0 sp true f.params.toList args.toList (s.fn H (ds++gs)).args pa)
  (hvars:∀ sp:Nat->Bool,(∀ p∈before,sp p.block=true)->DataW.TrodVars enc P W' sp s.vars (s.fn H (ds++gs)).vars pv)
  (hps:before=pa++pv) (hb:Below W.heap.size W W')
  (hok:∀ (j:Nat) (t:TypeId) (r:Value),f.resultTypes[j]?=some t->(v.resultList f.resultTypes.size)[j]?=some r->Value.okWide P W' .any 0 t r) :
  s.post enc P f apart fresh handsOn again W args v W':=by
 have hlt:∀ p∈before,p.block < W.heap.size:=fun p hp=>hW.lt p hp
 have hold:∀ p∈before,(fun b=>decide (b < W.heap.size)) p.block=true:=fun p hp=>by simpa using hlt p hp
 refine ⟨ds,gs,before,[],pa,pv,hW,hres _ _ _,hargs _ hold,hvars _ hold,World.keptBut_mono (fun p hp=>⟨hp,?_⟩) (hb.frame (·∈before)),fun _=>?_⟩
 ·rw [hps,List.mem_append] at hp
  exact Or.inr hp
 ·obtain ⟨_,_,_,_,_,hz,hn⟩:=hW
  refine ⟨hok,_,_,([]++pa)++pv,⟨[]++pa,pv,trodAll_append (hargs _ (fun _ _=>rfl)) (hres _ _ _),hvars _ (fun _ _=>rfl),rfl,?_,?_⟩,?_⟩
  ·intro b off hp
   have hin:MemPlace.cell b off∈before:=by rw [hps];simpa using hp
   rw [hb.frozen (hlt _ hin)]
   exact hz b off hin
  ·intro ha
   have:=hn ha
   rw [hps] at this
   simpa using this
  ·intro p hp _
   rw [hps]
   simpa using hp
end
theorem Try.own:ownKnob Try.prog.godebug=none:=by kernel_rfl
end Go.Proofs.Ytjehibknlmehmaa
namespace Go.Proofs.Ytjehibknlmehmaa
open Go.ChangeShapes Go.WideShapes Go.ChangeAt Go.RowKit Go.ChangeMaps Go.Ab
theorem checked_any (s:ByteArray) (w:World):Calls Try.prog 4 #[.string s] w fun e w'=>e=.returned (.bool true)/\Below w.heap.size w w':=
 Go.Ab.law_calls (checked_ok fun _ _=>rfl) (.cons (.sc _) .nil) w
theorem checked_lifted (os:Os) (started:os.Started) (H:Type) (enc:TypeId×Value->H) :
  ReturnsInHanded {} Try.checked os 4 .any (Rows.flatCheckedSpec.pre6 enc Try.prog Try.f4 Rows.flatCheckedRow.domain false) (Rows.flatCheckedSpec.post enc Try.prog Try.f4 false true false false):=by
 refine returnsInHanded_of_change (C:=Try.checked) Try.own started (by kernel_rfl) Try.func4
  (ChangeSpec.witness6 (enc:=enc) (C:=Try.checked) false ⟨#[],#[.string ⟨#[]⟩],[]⟩ 8 (by kernel_rfl) (by kernel_rfl) (by kernel_rfl) (by kernel_rfl)) ?_
 intro W base args ds gs before hval0 hW hcnd _
 have hval:∀ (j:Nat) t v,Try.f4.params[j]?=some t->args[j]?=some v->Value.okWide Try.prog W .any base t v:=hval0
 have hW':=hW
 obtain ⟨p,q,hA0,hV,rfl,hfz,hnd⟩:=hW
 have hA:DataW.TrodAll enc Try.prog W 0 (fun _=>true) true Try.f4.params.toList args.toList ds p:=hA0
 rw [Try.params4] at hA hval
 obtain ⟨v0,d0,rfl,rfl,h0⟩:=trodAll_one hA
 obtain ⟨rfl,rfl⟩:=trodVars_none hV
 obtain ⟨a,rfl,rfl,rfl,wa⟩:=open_string Try.underlying9 (hval 0 9 v0 rfl rfl) h0
 clear hA0 hval0
 simp only [List.append_nil] at hW'
 refine (checked_any a W).mono fun e W' ⟨he,hb⟩=>?_
 subst he
 exact ⟨_,rfl,post_of_below (pa:=[]) (pv:=[]) hW' (fun _ _ _=>trodAll_mk1 (shut_bool Try.underlying4 true)) (fun sp _=>trodAll_mk1 (shut_string Try.underlying9 wa)) (fun _ _=>rfl) rfl hb (ok_one (by kernel_rfl) rfl (okWide_bool_mk Try.underlying4 true))⟩
theorem flatchecked_said:Rows.FlatCheckedSaid:=
 OpenClaim.holds_of_wide 4 Try.f4 rfl rfl rfl rfl rfl rfl rfl ⟨rfl,rfl,rfl,rfl,rfl⟩ rfl rfl rfl rfl rfl (by kernel_rfl) Try.func4 (by kernel_rfl)
  (of_decide_eq_true (by kernel_rfl)) (by unfold Func.isWrapper;first | (rw [zX (by decide +kernel)];kernel_rfl) | (rw [zW (by decide +kernel)];exact ⟨rfl,rfl⟩))
  (fun os started H enc _=>checked_lifted os started H enc)
end Go.Proofs.Ytjehibknlmehmaa
