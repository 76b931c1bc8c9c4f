/- FlatRows answers true for every table of rows of the bulk that the statement names. No condition. -/
import Derived.Test.YtjehibknlmehmaaRows
import Derived.Deep.SlicePairs
import Derived.ProofKit
import Derived.Below
import Derived.ChangeSame
import Derived.ChangeMaps5
import Derived.WalkKit
import Derived.OpenShut
import Derived.WideKeyArgs
import Derived.SevenTiedAt
import Derived.Stop.LaidErr
import Derived.Deep.DeepHandedRow
import Derived.Test.YtjehibknlmehmaaHb
set_option maxRecDepth 100000
namespace Go.Proofs.Ytjehibknlmehmaa
open Go.Ab
attribute [-simp] eAlloc_d eStore_f
section
variable {h:AH} {M:Nat->Prop} {R:AE->AH->Prop}
theorem sameInts_ok {x z:AV} {l:List Int} (hx:SlR encI 1 3 h x l) (hz:SlR encI 1 3 h z l) (hl:l.length<=100000000) (hR:R (.ret (B true)) h):ACalls Try.prog 23 [x,z] h M R:=by
 apply F23.callsN
 simp only [F23.n13,F23.n12,hx.len.1,hx.len.2,hz.len.1,hz.len.2,zH,pBin_neq]
 have e0:((l.length:Int) != (l.length:Int))=false:=by simp
 simp only [e0,F23.n11,aIf_b,zE,zD,zC,zH,F23.n9]
 unfold F23.n8
 refine vLoop_of (ι:=Nat) (fun i v h'=>v=[x,z,I i]/\i<=l.length/\h'=h) (fun i=>l.length - i) 0 ⟨rfl,by omega,rfl⟩ ?_
 rintro K i v h' ⟨rfl,hi,rfl⟩ step
 simp only [F23.g1_,zN,zO,F23.n7,hx.len.1,hx.len.2,zH,pBin_lss]
 by_cases hlt:i < l.length
 ·have hli:(i:Int) < l.length:=by omega
  have g1:l[i]?=some l[i]:=zJ hlt
  have w1:IntKind.i64.wrap ((i:Int)+1)=((i+1:Nat):Int):=by rw [wrap_in (by omega) (by omega)];simp
  generalize l[i]=a at *
  simp only [zL hli,F23.n6,aIf_b,zD,zF,zC,zI,F23.n5]
  refine rng_one hx encI_len g1 rfl fun _=>?_
  refine rng_one hz encI_len g1 rfl fun _=>?_
  have e1:(a != a)=false:=by simp
  simp only [pBin_neq,e1,F23.n4,aIf_b,zE,zD,zC,zH,F23.n2,pBin_add,w1]
  exact step (i+1) _ _ (by omega) ⟨rfl,by omega,rfl⟩
 ·have hnl:¬ (i:Int) < l.length:=by omega
  simp only [zK hnl,F23.n6,aIf_b,zE,zD,zC,zH,zV,F23.n1]
  simpa using hR
theorem eqlB {t:TypeId} {c:Bool} {x y:Bool} {K:AV->Prop} (hb:isBoolT Try.prog t=true):pBin Try.prog .neq t c (B x) (B y) K=K (B (!(x==y))):=by simp [pBin,hb]
theorem bool4:isBoolT Try.prog 4=true:=by kernel_rfl
theorem rng_atI {α:Type} {f:α->List AV} {sz:Nat} {ty:TypeId} {x:AV} {l:List α} {i:Nat} {y:α} {K:AV->Nat->Prop} (hl:SlR f sz ty h x l) (hf:∀ y,(f y).length=sz) (hi:l[i]?=some y) (hK:∀ id,x=.sl id 0 l.length->K (.agg (f y)) id) :
  pIxA (some (sz,none)) x (.sc (.int .i64 i)) fun t=>lLd (some true) (some sz) t h K:=by
 have hlt:i < l.length:=(zM.1 hi).1
 obtain ⟨id,cells,ro,ty',rfl,ho,h1,h2,_⟩:=hl.at_ hf hi
 simp only [pIxA_sl,lLdn_f,ho,ldnk_mk,zG,zY]
 refine ⟨⟨by omega,by omega⟩,h2,?_⟩
 rw [h1];exact hK _ rfl
theorem same_true {q b:Int} {xa xb:AV} {ya yb:List (COp×AV)} (ha:OpsL h xa ya) (hb:OpsL h xb yb) (he:ya.map (·.1)=yb.map (·.1)) (hn:ya.length<=4096) (hg:∀ y∈ya,OG y.1)
  (hR:∀ h',Fr h h' (fun _=>False)->R (.ret (B true)) h'):ACalls Try.prog 11 [.agg [I q,I b,xa],.agg [I q,I b,xb]] h M R:=by
 apply F11.callsN
 have hlen:ya.length=yb.length:=by have:=congrArg List.length he;simpa using this
 have hxa:=ha.tab.one
 have hxb:=hb.tab.one
 unfold F11.n30
 refine box_var (cs:=[I q,I b,xa]) (by show (true&&(true&&(oneA xa&&true)))=true;rw [hxa.1];rfl) fun va h1 f1 _ oa=>?_
 refine box_var (cs:=[I q,I b,xb]) (by show (true&&(true&&(oneA xb&&true)))=true;rw [hxb.1];rfl) fun vb h2 f2 hvb ob=>?_
 have oa2:=f2.ob0 oa
 have f02:=f1.tr0 f2
 have ha2:=ha.fr0 f02
 have hb2:=hb.fr0 f02
 have e1:(q != q)=false:=by simp
 have e2:(b != b)=false:=by simp
 have e3:((ya.length:Int) != (yb.length:Int))=false:=by rw [hlen];simp
 simp only [F11.n29,pFld_ptr,lLd_f,oa2,ob,ldk_mk,zG,zA,zB,cellK_some,pBin_neq,e1,F11.n28,aIg_b,zT,zE,zD,zC,zI,e2,F11.n27,pPick_b,if_false,F11.n26,ha2.tab.len.1,ha2.tab.len.2,hb2.tab.len.1,hb2.tab.len.2,zH,e3,F11.n25,F11.n24,aIf_b,F11.n22]
 unfold F11.n21
 refine vLoop_of (ι:=Nat) (fun i v h'=>v=[.ptr va 0,.ptr vb 0,I i]/\i<=ya.length/\Fr h2 h' (fun _=>False)) (fun i=>ya.length - i) 0 ⟨rfl,by omega,Fr.refl⟩ ?_
 rintro K i v h' ⟨rfl,hi,f3⟩ step
 have oa3:=f3.ob0 oa2
 have ob3:=f3.ob0 ob
 have ha3:=ha2.fr0 f3
 have hb3:=hb2.fr0 f3
 simp only [F11.g1_,zN,zO,F11.n20,pFld_ptr,lLd_f,oa3,ldk_mk,zG,zA,zB,cellK_some,ha3.tab.len.1,ha3.tab.len.2,zH,pBin_lss]
 by_cases hlt:i < ya.length
 ·have hli:(i:Int) < ya.length:=by omega
  have hltb:i < yb.length:=by omega
  have g1:ya[i]?=some ya[i]:=zJ hlt
  have g2:yb[i]?=some yb[i]:=zJ hltb
  have hop:ya[i].1=yb[i].1:=by
   have:=congrArg (fun l:List COp=>l[i]?) he
   simp only [List.getElem?_map,g1,g2,yB] at this
   exact Option.some.inj this
  have hqa:=ha3.qs _ (List.getElem_mem hlt)
  have hqb:=hb3.qs _ (List.getElem_mem hltb)
  have hog:=hg _ (List.getElem_mem hlt)
  generalize ya[i]=y at *
  generalize yb[i]=z at *
  obtain ⟨o,x1⟩:=y
  obtain ⟨o',x2⟩:=z
  simp only at hop
  subst hop
  have w1:IntKind.i64.wrap ((i:Int)+1)=((i+1:Nat):Int):=by rw [wrap_in (by omega) (by omega)];simp
  simp only [zL hli,F11.n19,aIf_b,zD,zF,zC,zI,F11.n18]
  obtain ⟨idb,exb,oidb⟩:∃ idb,xb=.sl idb 0 yb.length/\h'.obj idb≠none:=by
   obtain ⟨id,cells,ro,ty',h1,h2,_⟩:=hb3.tab.at_ encO_len g2
   exact ⟨id,h1,by rw [h2];simp⟩
  have follow:∀ vx vy h4,Fr h' h4 (fun _=>False)->h4.obj vx=some (mkO (encO (o,x1)) 7 49)->h4.obj vy=some (mkO (encO (o,x2)) 7 49)->F11.n17 (fun id=>M id\/h.next<=id) (retV Try.prog [.tmp 4] R) K (fun (i:Nat) (vs:List AV) (h:AH)=>if i=0 then F11.n1 (fun id=>M id\/h.next<=id) (retV Try.prog [.tmp 4] R) (retV Try.prog [.tmp 4] R) (fun _ _ _=>False) (fun v h=>R (.pan v) h) h else False) (fun v h=>R (.pan v) h) (.ptr va 0) (.ptr vb 0) (I i) (.ptr vx 0) (.ptr vy 0) h4:=fun vx vy h4 f4 ox oy=>by
   have c1:(o.kind != o.kind)=false:=by simp
   have c2:(!decide (o.name=o.name))=false:=by simp
   have c3:(o.bit != o.bit)=false:=by simp
   have c4:(!(o.cond==o.cond))=false:=by simp
   have c5:(o.mask != o.mask)=false:=by simp
   have c6:(o.value != o.value)=false:=by simp
   have sneq:∀ {t:TypeId} {c:Bool} {a b:ByteArray} {K:AV->Prop},pBin Try.prog .neq t c (Sb a) (Sb b) K=K (B (!decide (a=b))):=fun {t c a b K}=>rfl
   simp only [F11.n17,pFld_ptr,lLd_f,ox,oy,ldk_mk,zG,encO,zA,zB,cellK_some,pBin_neq,c1,F11.n16,aIg_b,zT,zE,zD,zC,zI,sneq,decide_true,zS,F11.n15,pPick_b,if_false,F11.n14]
   refine ⟨fun _=>False,fun _ h=>h.elim,sameInts_ok (hqa.fr0 f4) (hqb.fr0 f4) hog.1 ?_⟩
   simp only [pUn_not,zS,F11.n13,pPick_b,zE,if_false,F11.n12,aIg_b,zT,zD,zC,zI,pFld_ptr,lLd_f,ox,oy,ldk_mk,zG,encO,zA,zB,cellK_some,pBin_neq,c3,F11.n11,F11.n10,eqlB bool4,c4,F11.n9,F11.n8,pBin_neqU,c5,F11.n7,F11.n6,c6,F11.n5,F11.n4,aIf_b,zH,F11.n2,pBin_add,w1]
   exact step (i+1) _ h4 (by omega) ⟨rfl,by omega,f3.tr0 f4⟩
  refine ⟨fun i=>if i=6 then vb else idb,fun i _=>by show h'.obj (if i=6 then vb else idb)≠none;split;rw [ob3];simp;exact oidb,?_⟩
  simp only [pFld_ptr,lLd_f,oa3,ob3,ldk_mk,zG,zA,zB,cellK_some]
  refine rng_at ha3.tab encO_len g1 fun _=>?_
  refine ⟨by simp,?_⟩
  refine rng_atI hb3.tab encO_len g2 fun id hid=>?_
  have eid:id=idb:=by rw [exb] at hid;cases hid;rfl
  subst eid
  refine ⟨by simp,?_⟩
  have hvbl:=h'.lt _ _ ob3
  have hidl:id < h'.next:=by
   rcases ho:h'.obj id with _ | p
   ·exact absurd ho oidb
   ·exact h'.lt _ _ ho
  have nx:h.next<=h'.next:=zR f02.next f3.next
  have z7:([Value.int .i64 0,.string ⟨#[]⟩,.slice none 0 0,.int .i64 0,.bool false,.int .u64 0,.int .u64 0].map AV.sc).length=7:=rfl
  have first:=AH.alloc_new h' (mkO ([Value.int .i64 0,.string ⟨#[]⟩,.slice none 0 0,.int .i64 0,.bool false,.int .u64 0,.int .u64 0].map AV.sc) 7 49)
  have fa:Fr h' (h'.alloc (mkO ([Value.int .i64 0,.string ⟨#[]⟩,.slice none 0 0,.int .i64 0,.bool false,.int .u64 0,.int .u64 0].map AV.sc) 7 49)) (fun _=>False):=Fr.refl.alloc _
  have one1:=encO_one (y:=(o,x1)) hqa.one.1
  have one2:=encO_one (y:=(o,x2)) hqb.one.1
  have put7:∀ {hh:AH} {v:Nat} {cs:List AV},hh.obj v=some (mkO ([Value.int .i64 0,.string ⟨#[]⟩,.slice none 0 0,.int .i64 0,.bool false,.int .u64 0,.int .u64 0].map AV.sc) 7 49)->cs.length=7->(hh.put v 0 cs).obj v=some (mkO cs 7 49):=fun {hh v cs} ho hc=>by
   rw [put_row ho]
   congr 1
   simp only [mkO]
   congr 1
   exact aFill_one (by rw [hc];rfl)
  generalize hh1:h'.alloc (mkO ([Value.int .i64 0,.string ⟨#[]⟩,.slice none 0 0,.int .i64 0,.bool false,.int .u64 0,.int .u64 0].map AV.sc) 7 49)=h1' at *
  have second:=AH.alloc_new h1' (mkO ([Value.int .i64 0,.string ⟨#[]⟩,.slice none 0 0,.int .i64 0,.bool false,.int .u64 0,.int .u64 0].map AV.sc) 7 49)
  have fb:Fr h1' (h1'.alloc (mkO ([Value.int .i64 0,.string ⟨#[]⟩,.slice none 0 0,.int .i64 0,.bool false,.int .u64 0,.int .u64 0].map AV.sc) 7 49)) (fun _=>False):=Fr.refl.alloc _
  have first2:=fb.ob0 first
  have n01:h'.next < h1'.next:=h1'.lt _ _ first
  simp only [eAlloc_d,hh1]
  generalize h1'.alloc (mkO ([Value.int .i64 0,.string ⟨#[]⟩,.slice none 0 0,.int .i64 0,.bool false,.int .u64 0,.int .u64 0].map AV.sc) 7 49)=h2' at *
  have fab:=fa.tr0 fb
  refine ⟨⟨rfl,rfl,?_⟩,rfl,rfl,?_⟩
  ·simp only [eStore_f,first2,avC_agg,stk_mk]
   refine ⟨⟨⟨.inr nx,fun i _=>by show h'.next≠(if i=6 then vb else id);split <;> omega⟩,one1,rfl,by simp⟩,?_⟩
   have g3:Fr h2' (h2'.put h'.next 0 (encO (o,x1))) (·=h'.next):=Fr.refl.put (.inl rfl)
   have p3:=put7 first2 (encO_len (o,x1))
   have f3':Fr h' (h2'.put h'.next 0 (encO (o,x1))) (fun _=>False):=fab.put (.inr (zU _))
   generalize h2'.put h'.next 0 (encO (o,x1))=h3' at *
   have s3:=g3.obj second (by omega)
   simp only [s3,stk_mk]
   refine ⟨⟨.inr (by omega),one2,rfl,by simp⟩,?_⟩
   have g4:Fr h3' (h3'.put h1'.next 0 (encO (o,x2))) (·=h1'.next):=Fr.refl.put (.inl rfl)
   exact follow _ _ _ (f3'.put (.inr (by omega))) (g4.obj p3 (by omega)) (put7 s3 (encO_len (o,x2)))
  ·simp only [eStore_f,second,avC_agg,stk_mk]
   refine ⟨⟨⟨.inr (by omega),fun i _=>by show h1'.next≠(if i=6 then vb else id);split <;> omega⟩,one1,rfl,by simp⟩,?_⟩
   have g3:Fr h2' (h2'.put h1'.next 0 (encO (o,x1))) (·=h1'.next):=Fr.refl.put (.inl rfl)
   have p3:=put7 second (encO_len (o,x1))
   have f3':Fr h' (h2'.put h1'.next 0 (encO (o,x1))) (fun _=>False):=fab.put (.inr (by omega))
   generalize h2'.put h1'.next 0 (encO (o,x1))=h3' at *
   have s3:=g3.obj first2 (by omega)
   simp only [s3,stk_mk]
   refine ⟨⟨.inr nx,one2,rfl,by simp⟩,?_⟩
   have g4:Fr h3' (h3'.put h'.next 0 (encO (o,x2))) (·=h'.next):=Fr.refl.put (.inl rfl)
   exact follow _ _ _ (f3'.put (.inr (zU _))) (g4.obj p3 (by omega)) (put7 s3 (encO_len (o,x2)))
 ·have hnl:¬ (i:Int) < ya.length:=by omega
  simp only [zK hnl,F11.n19,aIf_b,zE,zD,zC,zH,zV,F11.n1]
  simpa using hR h' (f02.tr0 f3)
end
end Go.Proofs.Ytjehibknlmehmaa
namespace Go.Proofs.Ytjehibknlmehmaa
open Go.Ab
attribute [-simp] eAlloc_d eStore_f
abbrev tq:ByteArray:=⟨#[113]⟩
abbrev t1:ByteArray:=⟨#[113,117,98,105,116,115,32,113,32,49,59,32,98,105,116,115,32,99,32,50,59,32,98,105,116,115,32,100,32,49,59,32,109,101,97,115,117,114,101,32,113,91,48,93,32,100,91,48,93,59,32,105,102,32,100,32,49,32,123,32,120,32,113,91,48,93,59,32,125]⟩
abbrev t2:ByteArray:=⟨#[103,97,116,101,32,103,32,120,32,123,32,103,32,120,59,32,125]⟩
abbrev t3:ByteArray:=⟨#[113,117,98,105,116,115,32,113,32,49,59,32,114,101,112,101,97,116,32,53,48,48,48,32,123,32,120,32,113,91,48,93,59,32,125]⟩
abbrev rs1:List Row:=[⟨sQubits,⟨#[113]⟩,[],1,0,0⟩,⟨sBits,⟨#[99]⟩,[],2,0,12⟩,⟨sBits,⟨#[100]⟩,[],1,0,22⟩,⟨sMeasure,ByteArray.empty,[⟨⟨#[113]⟩,0⟩,⟨⟨#[100]⟩,0⟩],0,0,32⟩,⟨sIf,⟨#[100]⟩,[],1,1,51⟩,⟨sUse,⟨#[120]⟩,[⟨⟨#[113]⟩,0⟩],0,0,60⟩]
abbrev rs2:List Row:=[⟨sGate,⟨#[103]⟩,[⟨⟨#[120]⟩,-1⟩],0,1,0⟩,⟨sUse,⟨#[103]⟩,[⟨⟨#[120]⟩,-1⟩],0,0,11⟩]
abbrev rs3:List Row:=[⟨sQubits,⟨#[113]⟩,[],1,0,0⟩,⟨sRepeat,ByteArray.empty,[],5000,1,12⟩,⟨sUse,⟨#[120]⟩,[⟨⟨#[113]⟩,0⟩],0,0,26⟩]
theorem parse1:parseP t1=.ok rs1:=by
 rw [<-parseF_eq]
 kernel_rfl
theorem parse2:parseP t2=.ok rs2:=by
 rw [<-parseF_eq]
 kernel_rfl
theorem parse3:parseP t3=.ok rs3:=by
 rw [<-parseF_eq]
 kernel_rfl
theorem repP_put {f:OL->Except Int OL} {o:COp} {pl:Int} (hf:∀ l,f l=putP l o pl):∀ (n:Nat) (l:OL),l.length<=4096->4096 < l.length+n->repP f n l=.error pl
 | 0,l,h1,h2=>by omega
 | n+1,l,h1,h2=>by
  simp only [repP,hf,putP]
  by_cases k:l.length=4096
  ·rw [zX k]
  ·rw [zW k]
   simp only [List.length_append,List.length_singleton]
   rw [zW (by omega)]
   exact repP_put hf n _ (by simp;omega) (by simp;omega)
end Go.Proofs.Ytjehibknlmehmaa
namespace Go.Proofs.Ytjehibknlmehmaa
open Go.Ab
def countF:Nat->List Dfn->List Row->Int->Int
 | 0,_,_,n=>n
 | _+1,_,[],n=>n
 | m+1,ds,r::rest,n=>countF m ds (rest.drop r.rows.toNat) (min (n+countK ds r (countF m ds (rest.take r.rows.toNat) 0)) 4097)
theorem countF_eq:∀ (m:Nat) (ds:List Dfn) (rows:List Row) (n:Int),rows.length<=m->countF m ds rows n=countP ds rows n
 | 0,ds,rows,n,h=>by
  have:rows=[]:=List.length_eq_zero_iff.1 (by omega)
  subst this
  rw [countP_nil];rfl
 | m+1,ds,[],n,h=>by rw [countP_nil];rfl
 | m+1,ds,r::rest,n,h=>by
  rw [List.length_cons] at h
  rw [countP_cons]
  simp only [countF]
  rw [countF_eq m _ _ _ (by simp only [yA,List.length_drop];omega),countF_eq m _ _ _ (by simp only [yA,List.length_drop];omega)]
def lookF:Nat->Nat->Option Nat->Nat->List Row->Bk->Except (Int×Int) Bk
 | 0,_,_,_,_,bk=>.ok bk
 | _+1,_,_,_,[],bk=>.ok bk
 | m+1,deep,own,i,r::rest,bk=>
  if formP r rest.length deep own.isSome≠0 then .error (r.place,formP r rest.length deep own.isSome)
  else match rowP bk own i r with
   | .error e=>.error (r.place,e)
   | .ok bk1=>match lookF m (deep+1) (if r.kind=sGate then some bk.ds.length else own) (i+1) (rest.take r.rows.toNat) bk1 with
    | .error e=>.error e
    | .ok bk2=>lookF m deep own (i+1+r.rows.toNat) (rest.drop r.rows.toNat) (if r.kind=sGate then { bk2 with ds:=setWhole bk2.ds bk.ds.length (countF m bk2.ds (rest.take r.rows.toNat) 0) } else bk2)
theorem lookF_eq:∀ (m:Nat) (deep:Nat) (own:Option Nat) (i:Nat) (rows:List Row) (bk:Bk),rows.length<=m->lookF m deep own i rows bk=lookP deep own i rows bk
 | 0,deep,own,i,rows,bk,h=>by
  have:rows=[]:=List.length_eq_zero_iff.1 (by omega)
  subst this
  rw [lookP_nil];rfl
 | m+1,deep,own,i,[],bk,h=>by rw [lookP_nil];rfl
 | m+1,deep,own,i,r::rest,bk,h=>by
  rw [List.length_cons] at h
  rw [lookP_cons]
  simp only [lookF]
  split
  ·rfl
  ·cases rowP bk own i r with
   | error e=>rfl
   | ok bk1=>
    simp only
    rw [lookF_eq m _ _ _ _ _ (by rw [yA];omega)]
    cases lookP (deep+1) (if r.kind=sGate then some bk.ds.length else own) (i+1) (rest.take r.rows.toNat) bk1 with
    | error e=>rfl
    | ok bk2=>
     simp only
     rw [lookF_eq m _ _ _ _ _ (by rw [List.length_drop];omega),countF_eq m _ _ _ (by rw [yA];omega)]
def doF (bk : Bk) (L : List Row) : Nat → Wsh → List Row → OL → Except Int OL
  | 0, _, _, l => .ok l
  | _ + 1, _, [], l => .ok l
  | m + 1, w, r :: rest, l => bindP (doF bk L m w (rest.drop r.rows.toNat))
    (if r.kind = sRepeat then repP (doF bk L m w (rest.take r.rows.toNat)) r.num.toNat l
     else if r.kind = sIf then (match regOf bk.bs r.name with
      | none => .ok l
      | some g => match wishIn w g r.num with
        | none => .ok l
        | some w' => doF bk L m w' (rest.take r.rows.toNat) l)
     else oneP bk L w r [] l)
theorem doF_eq {bk:Bk} {L:List Row}:∀ (m:Nat) (w:Wsh) (rows:List Row) (l:OL),rows.length<=m->doF bk L m w rows l=doP bk L w rows l
 | 0,w,rows,l,h=>by
  have:rows=[]:=List.length_eq_zero_iff.1 (by omega)
  subst this
  rw [doP_nil];rfl
 | m+1,w,[],l,h=>by rw [doP_nil];rfl
 | m+1,w,r::rest,l,h=>by
  rw [List.length_cons] at h
  rw [doP_cons]
  simp only [doF]
  have e1:doF bk L m w (rest.drop r.rows.toNat)=doP bk L w (rest.drop r.rows.toNat):=funext fun l=>doF_eq m w _ l (by rw [List.length_drop];omega)
  have e2:∀ w',doF bk L m w' (rest.take r.rows.toNat)=doP bk L w' (rest.take r.rows.toNat):=fun w'=>funext fun l=>doF_eq m w' _ l (by rw [yA];omega)
  rw [e1,e2]
  congr 1
  unfold oneP
  by_cases k1:r.kind=sRepeat
  ·rw [zX k1,zX k1]
  ·by_cases k2:r.kind=sIf
   ·simp only [zW k1,zX k2]
    cases regOf bk.bs r.name with
    | none=>rfl
    | some g=>
     simp only
     cases wishIn w g r.num with
     | none=>rfl
     | some w'=>simp only;rw [e2]
   ·simp only [zW k1,zW k2]
theorem look1:∃ bk,lookP 0 none 0 rs1 bk0=.ok bk/\totalR bk.qs=1/\totalR bk.bs=3/\doP bk rs1 ⟨false,0,0⟩ rs1 []=.ok [(⟨2,ByteArray.empty,[0],2,false,0,0⟩,32),(⟨1,⟨#[120]⟩,[0],0,true,4,4⟩,60)]:=by
 refine ⟨⟨[⟨⟨#[113]⟩,0,1⟩],[⟨⟨#[99]⟩,0,2⟩,⟨⟨#[100]⟩,2,1⟩],[]⟩,?_,by decide,by decide,?_⟩
 ·rw [<-lookF_eq 6 _ _ _ _ _ (by decide)]
  kernel_rfl
 ·rw [<-doF_eq 6 _ _ _ (by decide)]
  kernel_rfl
theorem flat1:flatP rs1=⟨1,3,[⟨2,ByteArray.empty,[0],2,false,0,0⟩,⟨1,⟨#[120]⟩,[0],0,true,4,4⟩],0,0⟩:=by
 obtain ⟨bk,h1,h2,h3,h4⟩:=look1
 unfold flatP
 rw [show (⟨[],[],[]⟩:Bk)=bk0 from rfl,h1]
 simp only [h4,h2,h3,List.map_cons,List.map_nil]
 have hc:checkP 1 3 [⟨2,ByteArray.empty,[0],2,false,0,0⟩,⟨1,⟨#[120]⟩,[0],0,true,4,4⟩]=(0,0):=by kernel_rfl
 rw [hc]
 rfl
theorem flat2:flatP rs2=⟨0,0,[],11,114⟩:=by
 have h1:lookP 0 none 0 rs2 bk0=.error (11,114):=by
  rw [<-lookF_eq 6 _ _ _ _ _ (by decide)]
  kernel_rfl
 unfold flatP
 rw [show (⟨[],[],[]⟩:Bk)=bk0 from rfl,h1]
theorem flat3:flatP rs3=⟨0,0,[],26,115⟩:=by
 have h1:lookP 0 none 0 rs3 bk0=.ok ⟨[⟨⟨#[113]⟩,0,1⟩],[],[]⟩:=by
  rw [<-lookF_eq 6 _ _ _ _ _ (by decide)]
  kernel_rfl
 have h2:doP ⟨[⟨⟨#[113]⟩,0,1⟩],[],[]⟩ rs3 ⟨false,0,0⟩ rs3 []=.error 26:=by
  have hf:∀ l,doF ⟨[⟨⟨#[113]⟩,0,1⟩],[],[]⟩ rs3 1 ⟨false,0,0⟩ [⟨sUse,⟨#[120]⟩,[⟨⟨#[113]⟩,0⟩],0,0,26⟩] l=putP l ⟨1,⟨#[120]⟩,[0],0,false,0,0⟩ 26:=fun l=>by
   have e:doF ⟨[⟨⟨#[113]⟩,0,1⟩],[],[]⟩ rs3 1 ⟨false,0,0⟩ [⟨sUse,⟨#[120]⟩,[⟨⟨#[113]⟩,0⟩],0,0,26⟩] l=bindP (fun l=>.ok l) (putP l ⟨1,⟨#[120]⟩,[0],0,false,0,0⟩ 26):=by kernel_rfl
   rw [e]
   cases putP l ⟨1,⟨#[120]⟩,[0],0,false,0,0⟩ 26 <;> rfl
  have hr:=repP_put hf 5000 [] (by decide) (by decide)
  rw [<-doF_eq 3 _ _ _ (by decide)]
  have e3:doF ⟨[⟨⟨#[113]⟩,0,1⟩],[],[]⟩ rs3 3 ⟨false,0,0⟩ rs3 []=bindP (doF ⟨[⟨⟨#[113]⟩,0,1⟩],[],[]⟩ rs3 1 ⟨false,0,0⟩ []) (repP (doF ⟨[⟨⟨#[113]⟩,0,1⟩],[],[]⟩ rs3 1 ⟨false,0,0⟩ [⟨sUse,⟨#[120]⟩,[⟨⟨#[113]⟩,0⟩],0,0,26⟩]) 5000 []):=by
   have h1:doF ⟨[⟨⟨#[113]⟩,0,1⟩],[],[]⟩ rs3 3 ⟨false,0,0⟩ rs3 []=doF ⟨[⟨⟨#[113]⟩,0,1⟩],[],[]⟩ rs3 2 ⟨false,0,0⟩ [⟨sRepeat,ByteArray.empty,[],5000,1,12⟩,⟨sUse,⟨#[120]⟩,[⟨⟨#[113]⟩,0⟩],0,0,26⟩] []:=rfl
   rw [h1]
   conv=>lhs;unfold doF
   rw [zX rfl]
   rfl
  rw [e3,hr]
  rfl
 unfold flatP
 rw [show (⟨[],[],[]⟩:Bk)=bk0 from rfl,h1]
 simp only [h2]
end Go.Proofs.Ytjehibknlmehmaa
namespace Go.Proofs.Ytjehibknlmehmaa
open Go.Ab
attribute [-simp] eAlloc_d eStore_f
theorem F12_ret {h:AH} {R:AE->AH->Prop} {v:Nat} {q b:Int} {xo:AV} {a e:Int} (ho:h.obj v=some (mkO [I q,I b,xo] 3 27)) (hR:R (.ret (.tup [.agg [I q,I b,xo],I a,I e])) h):retV Try.prog [.cell 2 27,.tmp 3,.tmp 4] R [.ptr v 0,I a,I e] h:=F10_ret ho hR
def Small (rows:List Row):Prop:=rows.length<=100000000/\∀ r∈rows,r.args.length<=100000000/\r.num<=9223372036854775807
theorem RowsAt.rt {h:AH} {x:AV} {rows:List Row} (a:RowsAt h x rows) (s:Small rows):∃ rs,RT h x rs/\rs.map (·.1)=rows/\∀ y∈rs,y.1.num<=9223372036854775807:=by
 obtain ⟨l,h1,h2,h3⟩:=a
 have hm:∀ y∈l,y.1∈rows:=fun y hy=>by rw [<-h2];exact List.mem_map_of_mem hy
 refine ⟨l,⟨h1.toR,fun y hy=>⟨(h3 y hy).toR,(s.2 _ (hm y hy)).1⟩,?_⟩,h2,fun y hy=>(s.2 _ (hm y hy)).2⟩
 have:=congrArg List.length h2
 have:=s.1
 simp only [zZ] at *;omega
section
variable {h:AH} {M:Nat->Prop} {R:AE->AH->Prop}
theorem read_ok {s:ByteArray} {rows:List Row} (hp:parseP s=.ok rows) (hs:Small rows) (hR:∀ xo yl h',FlatA h' (flatP rows) xo yl->Fr h h' (fun _=>False)->R (.ret (.tup [.agg [I (flatP rows).q,I (flatP rows).b,xo],I (flatP rows).at_,I (flatP rows).err])) h'):ACalls Try.prog 12 [Sb s] h M R:=by
 apply F12.callsN
 unfold F12.n6
 have hv:=AH.alloc_new h (mkO ([Value.int .i64 0,.int .i64 0,.slice none 0 0].map AV.sc) 3 27)
 rw [eAlloc_d]
 refine ⟨rfl,?_⟩
 have f1:Fr h (h.alloc (mkO ([Value.int .i64 0,.int .i64 0,.slice none 0 0].map AV.sc) 3 27)) (fun _=>False):=Fr.refl.alloc _
 generalize h.alloc (mkO ([Value.int .i64 0,.int .i64 0,.slice none 0 0].map AV.sc) 3 27)=h1 at *
 obtain ⟨v,hvn⟩:∃ v,v=h.next:=⟨_,rfl⟩
 rw [<-hvn] at hv ⊢
 have ov:h1.obj v=some (mkO [I 0,I 0,nilS] 3 27):=hv
 have putv:∀ {h':AH} {x y z:AV},h'.obj v=some (mkO [I 0,I 0,nilS] 3 27)->(h'.put v 0 [x,y,z]).obj v=some (mkO [x,y,z] 3 27):=fun ho=>by rw [put_mk ho];rfl
 have fput:∀ {h':AH} {cs:List AV},Fr h h' (fun _=>False)->Fr h (h'.put v 0 cs) fun _=>False:=fun hf=>hf.put (.inr (by omega))
 unfold F12.n5
 refine ⟨fun _=>False,fun _ h=>h.elim,parse_ok ?_⟩
 unfold ParseR
 rw [hp]
 ·intro x h2 hx _ f2
  have f02:=f1.tr0 f2
  have ov2:=f2.ob0 ov
  obtain ⟨rs,rt,hrs,hnum⟩:=hx.rt hs
  have h00:((0:Int) != 0)=false:=rfl
  simp only [pExt_tup,zA,zB,cellK_some,F12.n4,pBin_neq,h00,F12.n3,aIf_b,zE,zD,zC,zH,F12.n1]
  refine ⟨fun _=>False,fun _ h=>h.elim,flat_ok rt hnum fun xo yl h3 hf f3=>?_⟩
  rw [hrs] at hf ⊢
  have ov3:=f3.ob0 ov2
  have hxo:=hf.o.tab.one
  simp only [pExt_tup,zA,zB,cellK_some,eStore_f,ov3,avC_agg,stk_mk]
  refine ⟨⟨.inr (by omega),by show (true&&(true&&(oneA xo&&true)))=true;rw [hxo.1];rfl,rfl,by simp⟩,?_⟩
  have fv:Fr h3 (h3.put v 0 [I (flatP rows).q,I (flatP rows).b,xo]) (·=v):=Fr.refl.put (.inl rfl)
  refine F12_ret (putv ov3) (hR xo yl _ ⟨⟨hf.o.tab.fr fv fun id o ho ht e=>?_,fun y hy=>(hf.o.qs y hy).fr fv fun id o ho ht e=>?_⟩,hf.e,hf.g,hf.n⟩ (fput (f02.tr0 f3)))
  ·subst e;rw [ov3] at ho;cases ho;exact absurd (ht rfl) (show (27:Nat)≠49 by decide)
  ·subst e;rw [ov3] at ho;cases ho;exact absurd (ht rfl) (show (27:Nat)≠3 by decide)
theorem small1:Small rs1:=⟨by decide,by decide⟩
theorem small2:Small rs2:=⟨by decide,by decide⟩
theorem small3:Small rs3:=⟨by decide,by decide⟩
theorem alive_ok (hR:∀ h',Fr h h' (fun _=>False)->R (.ret (B true)) h'):ACalls Try.prog 7 [] h M R:=by
 apply F7.callsN
 unfold F7.n33 F7.n32
 refine ⟨fun _=>False,fun _ h=>h.elim,read_ok parse1 small1 fun xo1 yl1 h1 fa1 f1=>?_⟩
 rw [flat1] at fa1 ⊢
 have hxo1:=fa1.o.tab.one
 simp only [pExt_tup,zA,zB,cellK_some]
 refine new_var (cs:=[I 1,I 3,xo1]) (by show (true&&(true&&(oneA xo1&&true)))=true;rw [hxo1.1];rfl) rfl rfl rfl (fun id hid=>.inr (zR f1.next hid)) fun v1 h2 f2 _ o1=>?_
 have f02:=f1.tr0 f2
 unfold F7.n31
 refine ⟨fun _=>False,fun _ h=>h.elim,read_ok parse2 small2 fun xo2 yl2 h3 fa2 f3=>?_⟩
 rw [flat2] at fa2 ⊢
 have hxo2:=fa2.o.tab.one
 have f03:=f02.tr0 f3
 simp only [pExt_tup,zA,zB,cellK_some]
 refine new_var (cs:=[I 0,I 0,xo2]) (by show (true&&(true&&(oneA xo2&&true)))=true;rw [hxo2.1];rfl) rfl rfl rfl (fun id hid=>.inr (zR f03.next hid)) fun v2 h4 f4 _ o2=>?_
 have f04:=f03.tr0 f4
 unfold F7.n30
 refine ⟨fun _=>False,fun _ h=>h.elim,read_ok parse3 small3 fun xo3 yl3 h5 fa3 f5=>?_⟩
 rw [flat3] at fa3 ⊢
 have hxo3:=fa3.o.tab.one
 have f05:=f04.tr0 f5
 simp only [pExt_tup,zA,zB,cellK_some]
 refine new_var (cs:=[I 0,I 0,xo3]) (by show (true&&(true&&(oneA xo3&&true)))=true;rw [hxo3.1];rfl) rfl rfl rfl (fun id hid=>.inr (zR f05.next hid)) fun v3 h6 f6 _ o3=>?_
 have f06:=f05.tr0 f6
 have f26:=((f3.tr0 f4).tr0 f5).tr0 f6
 have o16:=f26.ob0 o1
 have fo:=fa1.o.fr0 (f2.tr0 f26)
 obtain ⟨ya,yb,hy⟩:∃ ya yb,yl1=[ya,yb]:=by
  have:=congrArg List.length fa1.e
  simp only [zZ,List.length_cons,List.length_nil] at this
  match yl1,this with
  | [a,b],_=>exact ⟨a,b,rfl⟩
 subst hy
 have he:=fa1.e
 simp only [List.map_cons,List.map_nil,List.cons.injEq,zI] at he
 obtain ⟨hea,heb⟩:=he
 have ha:fo.tab=fo.tab:=rfl
 have fin:=hR h6 f06
 have ga:([ya,yb]:List (COp×AV))[0]?=some ya:=rfl
 have gb:([ya,yb]:List (COp×AV))[1]?=some yb:=rfl
 simp only [F7.n29,F7.n28,aIg_b,zT,zE,zD,zC,zI,pBin_neq,show ((0:Int) != 0)=false from rfl,F7.n27,pPick_b,if_false,F7.n26,F7.n25,F7.n24,show ((114:Int) != 114)=false from rfl,F7.n23,F7.n22,show ((11:Int) != 11)=false from rfl,F7.n21,F7.n20,show ((115:Int) != 115)=false from rfl,F7.n19,F7.n18,show ((26:Int) != 26)=false from rfl,F7.n17,F7.n16,aIf_b,zH,F7.n14,pFld_ptr,lLd_f,o16,ldk_mk,zG,zA,zB,cellK_some,pBin_eql,show ((1:Int)==1)=true from rfl,F7.n13,zS,zF,show ((3:Int)==3)=true from rfl,F7.n12,zV,F7.n11,fo.tab.len.1,fo.tab.len.2,List.length_cons,List.length_nil,show (((0+1+1:Nat):Int)==2)=true from rfl,F7.n10,F7.n9]
 refine rng_fld (i:=0) (k:=3) fo.tab encO_len ga (by omega) rfl fun _=>?_
 rw [hea]
 simp only [pBin_eql,show ((2:Int)==2)=true from rfl,F7.n8,pPick_b,zV,F7.n7,aIg_b,zS,zD,zF,zC,zI,pFld_ptr,lLd_f,o16,ldk_mk,zG,zA,zB,cellK_some]
 refine rng_fld (i:=1) (k:=4) fo.tab encO_len gb (by omega) rfl fun _=>?_
 rw [heb]
 have eqlU:∀ {t:TypeId} {c:Bool} {x y:Int} {K:AV->Prop},pBin Try.prog .eql t c (U x) (U y) K=K (B (x==y)):=fun {t c x y K}=>by simp [pBin]
 simp only [F7.n6,pPick_b,zV,F7.n5,aIg_b,zS,zD,zF,zC,zI,pFld_ptr,lLd_f,o16,ldk_mk,zG,zA,zB,cellK_some]
 refine rng_fld (i:=1) (k:=5) fo.tab encO_len gb (by omega) rfl fun _=>?_
 rw [heb]
 simp only [eqlU,show ((4:Int)==4)=true from rfl,F7.n4,pPick_b,zV,F7.n3,aIg_b,zS,zD,zF,zC,zI,pFld_ptr,lLd_f,o16,ldk_mk,zG,zA,zB,cellK_some]
 refine rng_fld (i:=1) (k:=6) fo.tab encO_len gb (by omega) rfl fun _=>?_
 rw [heb]
 simp only [eqlU,show ((4:Int)==4)=true from rfl,F7.n2,pPick_b,zV,F7.n1]
 simpa using fin
end
end Go.Proofs.Ytjehibknlmehmaa
namespace Go.Proofs.Ytjehibknlmehmaa
open Go.Ab
attribute [-simp] eAlloc_d eStore_f
section
variable {h:AH} {M:Nat->Prop} {R:AE->AH->Prop} {xr:AV} {rs:List (Row×AV)}
theorem law_rows (rt:RT h xr rs) (hn:∀ y∈rs,y.1.num<=9223372036854775807) (hR:∀ h',Fr h h' (fun _=>False)->R (.ret (B true)) h'):ACalls Try.prog 3 [xr] h M R:=by
 apply F3.callsN
 unfold F3.n15 F3.n14
 refine ⟨fun _=>False,fun _ h=>h.elim,alive_ok fun h1 f1=>?_⟩
 have rt1:=rt.fr0 f1
 simp only [pUn_not,zS,F3.n13,aIf_b,zE,zD,zC,zH,F3.n11]
 refine ⟨fun _=>False,fun _ h=>h.elim,?_⟩
 apply F8.callsN
 simp only [F8.n2,F8.n1,rt1.r.len.1,rt1.r.len.2,zH,pBin_gtr,gt_iff_lt]
 by_cases hv:(20000:Int) < rs.length
 ·have:=hR h1 f1
  simpa [hv,F3.n10,F3.n9] using this
 ·have go:F3.n8 (fun id=>M id\/h.next<=id) (retV Try.prog [.tmp 2] R) (retV Try.prog [.tmp 2] R) (fun _ _ _=>False) (fun v h=>R (.pan v) h) xr h1:=by
   unfold F3.n8
   refine ⟨fun _=>False,fun _ h=>h.elim,flatR_ok rt1 hn fun xo1 yl1 h2 fa1 f2=>?_⟩
   have hxo1:=fa1.o.tab.one
   simp only [pExt_tup,zA,zB,cellK_some]
   have f02:=f1.tr0 f2
   refine new_var (z:=[.int .i64 0,.int .i64 0,.slice none 0 0]) (sz:=3) (ty:=27) (cs:=[I (flatP (rs.map (·.1))).q,I (flatP (rs.map (·.1))).b,xo1]) (by show (true&&(true&&(oneA xo1&&true)))=true;rw [hxo1.1];rfl) rfl rfl rfl (fun id hid=>Or.inr (zR f02.next hid)) fun v1 h3 f3 _ o1=>?_
   have f03:=f02.tr0 f3
   unfold F3.n7
   refine ⟨fun _=>False,fun _ h=>h.elim,flat_ok (rt.fr0 f03) hn fun xo2 yl2 h4 fa2 f4=>?_⟩
   have hxo2:=fa2.o.tab.one
   have f04:=f03.tr0 f4
   simp only [pExt_tup,zA,zB,cellK_some]
   refine new_var (z:=[.int .i64 0,.int .i64 0,.slice none 0 0]) (sz:=3) (ty:=27) (cs:=[I (flatP (rs.map (·.1))).q,I (flatP (rs.map (·.1))).b,xo2]) (by show (true&&(true&&(oneA xo2&&true)))=true;rw [hxo2.1];rfl) rfl rfl rfl (fun id hid=>Or.inr (zR f04.next hid)) fun v2 h5 f5 _ o2=>?_
   have f05:=f04.tr0 f5
   unfold F3.n6
   refine var_ld o2 rfl fun _=>?_
   refine var_ld ((f4.tr0 f5).ob0 o1) rfl fun _=>?_
   refine ⟨fun _=>False,fun _ h=>h.elim,same_true (fa2.o.fr0 f5) (fa1.o.fr0 ((f3.tr0 f4).tr0 f5)) (by rw [fa1.e,fa2.e]) fa2.n fa2.g fun h6 f6=>?_⟩
   have e1:((flatP (rs.map (·.1))).at_==(flatP (rs.map (·.1))).at_)=true:=by simp
   have e2:((flatP (rs.map (·.1))).err==(flatP (rs.map (·.1))).err)=true:=by simp
   simp only [F3.n5,aIg_b,zS,zD,zF,zC,zI,pBin_eql,e1,F3.n4,pPick_b,zV,F3.n3,e2,F3.n2,F3.n1]
   simpa using hR h6 (f05.tr0 f6)
  simpa [hv,F3.n10,-F3.n8] using go
end
end Go.Proofs.Ytjehibknlmehmaa
namespace Go.Proofs.Ytjehibknlmehmaa
open Go.Ab Go.Deep Go.ChangeShapes Go.WideShapes
def argsW (l:List Arg):Nat:=(l.map fun g=>g.name.size+8).sum
def rowW (r:Row):Nat:=r.kind.size+r.name.size+8+argsW r.args
def rowsW (l:List Row):Nat:=(l.map rowW).sum
instance:Inhabited Arg:=⟨⟨⟨#[]⟩,0⟩⟩
instance:Inhabited Row:=⟨⟨⟨#[]⟩,⟨#[]⟩,[],0,0,0⟩⟩
theorem bulk_map {H:Type} {R:List Nat} {f:Nat->Nat} {D:Nat->DataW H} (h:∀ i∈R,f i<=8 * Rows.uptoBulk (D i)):(R.map f).sum<=8 * Rows.uptoBulkAll (R.map D):=by
 induction R with
 | nil=>simp
 | cons a R ih=>
  have h1:=h a (by simp)
  have h2:=ih fun i hi=>h i (by simp [hi])
  simp only [List.map_cons,List.sum_cons,Rows.uptoBulkAll]
  omega
def AtC (E:Env) (W:World) (b o:Nat) (cs:List AV):Prop:=∃ arr T fz,W.heap[b]?=some (.cells arr T fz)/\CRb E o cs arr
theorem cell_arr {W:World} {b o:Nat} {v:Value} (h:W.cell? ⟨b,o,none⟩=some v):∃ arr T fz,W.heap[b]?=some (.cells arr T fz)/\arr[o]?=some v:=by
 unfold World.cell? at h
 split at h
 ·rename_i c T fz hc
  simp at h
  exact ⟨c,T,fz,hc,h⟩
 ·cases h
theorem atC_of {α:Type} {E:Env} {W:World} {b o sz:Nat} {f:α->List AV} {l:List α} (hf:∀ y,(f y).length=sz) (hs:0 < sz) (hl:l≠[])
  (h:∀ q y,l[q]?=some y->∀ j,j < sz->∃ v c,W.cell? ⟨b,o+(q * sz+j),none⟩=some v/\(f y)[j]?=some c/\VR E c v/\v.oneCell'=true):AtC E W b o (l.flatMap f):=by
 have hpos:0 < l.length:=List.length_pos_iff.2 hl
 obtain ⟨v0,_,h0,_⟩:=h 0 l[0] (zJ hpos) 0 hs
 obtain ⟨arr,T,fz,hb,_⟩:=cell_arr h0
 refine ⟨arr,T,fz,hb,fun i c hi=>?_⟩
 have hil:i < l.length * sz:=by rw [<-flat_len hf l];exact (zM.1 hi).1
 have hq:i / sz < l.length:=Nat.div_lt_of_lt_mul (by rw [Nat.mul_comm];exact hil)
 have hj:i % sz < sz:=Nat.mod_lt _ hs
 have he:i / sz * sz+i % sz=i:=by rw [Nat.mul_comm];exact Nat.div_add_mod i sz
 obtain ⟨v,c',h1,h2,h3,h4⟩:=h (i / sz) l[i / sz] (zJ hq) (i % sz) hj
 have hg:=flat_get hf l (i / sz) (i % sz) hj
 rw [he,zJ hq] at hg
 rw [hg] at hi
 simp only [Option.bind_some] at hi
 rw [h2] at hi
 cases hi
 obtain ⟨arr',T',fz',hb',ha⟩:=cell_arr h1
 rw [hb] at hb';cases hb'
 rw [he] at ha
 exact ⟨v,ha,h3,h4⟩
section
variable {H:Type} {enc:TypeId×Value->H} {W:World}
def ArgsIn (W:World) (v:Value) (l:List Arg):Prop:=
 (∃ a c,v=.slice a 0 c/\l=[])\/∃ b o cap,v=.slice (some ⟨b,o,none⟩) l.length cap/\l.length<=cap/\cap<=maxLen/\l≠[]/\∀ E,AtC E W b o (l.flatMap Arg.enc)
theorem args_open {fuel:Nat} {cs:List Value} {x:DataW H×List MemPlace} (h:DataW.trod enc Try.prog W 0 (fun _=>true) true fuel 40 cs=some x) :
  ∃ v l,cs=[v]/\ArgsIn W v l/\(∃ a len cap,v=.slice a len cap)/\argsW l+1<=8 * Rows.uptoBulk x.1:=by
 rcases open_slice_pairs Try.underlying40 Try.underlying44 (by kernel_rfl) rfl rfl (by kernel_rfl) (by kernel_rfl) h with ⟨rfl,rfl⟩ | ⟨a,len,cap,m,n,V0,V1,D0,D1,P0,P1,rfl,hb,hl,hm,hmm,rfl,hx⟩
 ·exact ⟨_,[],rfl,.inl ⟨none,0,rfl,rfl⟩,⟨_,_,_,rfl⟩,by simp [argsW,Rows.uptoBulk]⟩
 ·simp only [zV] at hmm
  subst hmm
  have each:∀ i,i < len->∃ g:Arg,V0 i=.string g.name/\V1 i=.int .i64 g.index/\g.name.size+8<=8 * Rows.uptoBulk (DataW.agg [D0 i,D1 i]):=by
   intro i hi
   obtain ⟨_,_,t0,t1⟩:=hx i (by omega)
   obtain ⟨s,h1,h2,_⟩:=DataW.trod_string Try.underlying9 t0
   obtain ⟨z,h3,h4,_⟩:=DataW.trod_int Try.underlying3 t1
   simp only [Prod.mk.injEq] at h2 h4
   refine ⟨⟨s,z⟩,by simpa using h1,by simpa using h3,?_⟩
   rw [h2.1,h4.1]
   simp only [Rows.uptoBulk,Rows.uptoBulkAll]
   have:s.data.toList.length=s.size:=rfl
   omega
  obtain ⟨g,hg⟩:=choose_lt (α:=Arg) each
  have hsum:argsW ((List.range len).map g)<=8 * Rows.uptoBulkAll ((List.range len).map fun i=>DataW.agg [D0 i,D1 i]):=by
   unfold argsW
   rw [List.map_map]
   exact bulk_map fun i hi=>(hg i (List.mem_range.1 hi)).2.2
  have hbk:argsW ((List.range len).map g)+1<=8 * Rows.uptoBulk (DataW.slice ((List.range len).map fun i=>DataW.agg [D0 i,D1 i]) ((List.range (m - len)).map fun j=>DataW.agg [D0 (len+j),D1 (len+j)])):=by
   simp only [Rows.uptoBulk];omega
  refine ⟨_,(List.range len).map g,rfl,?_,⟨_,_,_,rfl⟩,hbk⟩
  by_cases h0:len=0
  ·subst h0
   exact .inl ⟨_,_,rfl,rfl⟩
  ·right
   obtain ⟨b,o,spot⟩:=a
   have c0:=(hx 0 (by omega)).1
   have hspot:spot=none:=by simpa [Addr.add] using World.cell?_spot c0
   subst hspot
   refine ⟨b,o,m,by rw [zZ,List.length_range],by rw [zZ,List.length_range];exact hl,hm,fun e=>h0 (by have:=congrArg List.length e;simpa using this),fun E=>?_⟩
   refine atC_of (sz:=2) Arg.enc_len (by omega) (fun e=>h0 (by have:=congrArg List.length e;simpa using this)) fun q y hq j hj=>?_
   rw [List.getElem?_map] at hq
   obtain ⟨q',hq',rfl⟩:=Option.map_eq_some_iff.1 hq
   have hql:q < len:=by have:=(zM.1 hq').1;simpa using this
   have hqe:q'=q:=by rw [List.getElem?_range hql] at hq';exact (Option.some.inj hq').symm
   subst hqe
   obtain ⟨a0,a1,_,_⟩:=hx q' (by omega)
   rw [add_plain] at a0
   obtain ⟨g1,g2,_⟩:=hg q' hql
   match j,hj with
   | 0,_=>exact ⟨_,_,by rw [Nat.add_zero];rw [g1] at a0;exact a0,rfl,.sc _,rfl⟩
   | 1,_=>exact ⟨_,_,by rw [add_plain] at a1;rw [g2] at a1;exact a1,rfl,.sc _,rfl⟩
end
end Go.Proofs.Ytjehibknlmehmaa
namespace Go.Proofs.Ytjehibknlmehmaa
open Go.Ab Go.Deep Go.ChangeShapes Go.WideShapes
section
variable {H:Type} {enc:TypeId×Value->H} {W:World}
def cellsOfRow (y:Row×Value):List Value:=[.string y.1.kind,.string y.1.name,y.2,.int .i64 y.1.num,.int .i64 y.1.rows,.int .i64 y.1.place]
def RowsIn (W:World) (v:Value) (l:List (Row×Value)):Prop:=
 (∀ y∈l,ArgsIn W y.2 y.1.args/\∃ a len cap,y.2=.slice a len cap) /\
 ((∃ a c,v=.slice a 0 c/\l=[])\/∃ b o cap,v=.slice (some ⟨b,o,none⟩) l.length cap/\l.length<=cap/\cap<=maxLen/\l≠[]/\∀ q y,l[q]?=some y->∀ j v,(cellsOfRow y)[j]?=some v->W.cell? ⟨b,o+(q * 6+j),none⟩=some v)
theorem row_open {fuel:Nat} {cs:List Value} {x:DataW H×List MemPlace} (h:DataW.trod enc Try.prog W 0 (fun _=>true) true fuel 42 cs=some x) :
  ∃ y:Row×Value,cs=cellsOfRow y/\ArgsIn W y.2 y.1.args/\(∃ a len cap,y.2=.slice a len cap)/\rowW y.1<=8 * Rows.uptoBulk x.1/\y.1.num<=9223372036854775807:=by
 obtain ⟨xs,n,_,rfl,hl,hxl,hf⟩:=DataW.trod_struct Try.underlying42 h
 rw [show Try.prog.cellsOf 42=6 by kernel_rfl] at hl
 match cs,hl,xs,hxl with
 | [c0,c1,c2,c3,c4,c5],_,[y0,y1,y2,y3,y4,y5],_=>
  have t0:=hf 0 _ rfl
  have t1:=hf 1 _ rfl
  have t2:=hf 2 _ rfl
  have t3:=hf 3 _ rfl
  have t4:=hf 4 _ rfl
  have t5:=hf 5 _ rfl
  have k9:Try.prog.cellsOf 9=1:=by kernel_rfl
  have k40:Try.prog.cellsOf 40=1:=by kernel_rfl
  have k3:Try.prog.cellsOf 3=1:=by kernel_rfl
  simp [k9,k40,k3] at t0 t1 t2 t3 t4 t5
  obtain ⟨s0,h0,e0,_⟩:=DataW.trod_string Try.underlying9 t0
  obtain ⟨s1,h1,e1,_⟩:=DataW.trod_string Try.underlying9 t1
  obtain ⟨v,l,h2,ha,hs,hb⟩:=args_open t2
  obtain ⟨z3,h3,e3,wf3⟩:=DataW.trod_int Try.underlying3 t3
  obtain ⟨z4,h4,e4,_⟩:=DataW.trod_int Try.underlying3 t4
  obtain ⟨z5,h5,e5,_⟩:=DataW.trod_int Try.underlying3 t5
  simp at h0 h1 h2 h3 h4 h5
  subst h0 h1 h2 h3 h4 h5
  refine ⟨(⟨s0,s1,l,z3,z4,z5⟩,c2),rfl,ha,hs,?_,?_⟩
  rotate_left
  ·simp [Lit.wf] at wf3
   have hmx:IntKind.i64.max=9223372036854775807:=by decide
   simp only
   omega
  simp only [List.map_cons,List.map_nil,Rows.uptoBulk,Rows.uptoBulkAll]
  rw [e0,e1,e3,e4,e5]
  simp only [Rows.uptoBulk,rowW]
  have q0:s0.data.toList.length=s0.size:=rfl
  have q1:s1.data.toList.length=s1.size:=rfl
  omega
theorem rows_open {fuel:Nat} {cs:List Value} {x:DataW H×List MemPlace} (h:DataW.trod enc Try.prog W 0 (fun _=>true) true fuel 22 cs=some x) :
  ∃ v l,cs=[v]/\RowsIn W v l/\rowsW (l.map (·.1))<=8 * Rows.uptoBulk x.1/\∀ y∈l,y.1.num<=9223372036854775807:=by
 rcases open_slice Try.underlying22 h with ⟨rfl,rfl⟩ | ⟨a,len,cap,m,n,D,Pl,rfl,hb,hl,hm,hmm,rfl,hx⟩
 ·exact ⟨_,[],rfl,⟨by simp,.inl ⟨none,0,rfl,rfl⟩⟩,by simp [rowsW],by simp⟩
 ·simp only [zV] at hmm
  subst hmm
  rw [show Try.prog.cellsOf 42=6 by kernel_rfl] at hx
  have each:∀ i,i < len->∃ y:Row×Value,(∀ j v,(cellsOfRow y)[j]?=some v->W.cell? ((a.add (i * 6)).add j)=some v)/\ArgsIn W y.2 y.1.args/\(∃ a len cap,y.2=.slice a len cap)/\rowW y.1<=8 * Rows.uptoBulk (D i)/\y.1.num<=9223372036854775807:=by
   intro i hi
   obtain ⟨cs',h1,h2⟩:=hx i (by omega)
   obtain ⟨_,hlen,hcell⟩:=World.cells?_some h1
   obtain ⟨y,rfl,h3,h4,h5,h6⟩:=row_open h2
   refine ⟨y,fun j v hj=>?_,h3,h4,h5,h6⟩
   have:j < 6:=by have:=(zM.1 hj).1;simpa [cellsOfRow] using this
   rw [hcell j this,hj]
  obtain ⟨g,hg⟩:=choose_lt (α:=Row×Value) each
  have hsum:rowsW (((List.range len).map g).map (·.1))<=8 * Rows.uptoBulkAll ((List.range len).map D):=by
   unfold rowsW
   rw [List.map_map,List.map_map]
   exact bulk_map fun i hi=>(hg i (List.mem_range.1 hi)).2.2.2.1
  have hbk:rowsW (((List.range len).map g).map (·.1))<=8 * Rows.uptoBulk (DataW.slice ((List.range len).map D) ((List.range (m - len)).map fun j=>D (len+j))):=by
   simp only [Rows.uptoBulk];omega
  refine ⟨_,(List.range len).map g,rfl,⟨fun y hy=>?_,?_⟩,hbk,fun y hy=>by obtain ⟨i,hi,rfl⟩:=List.mem_map.1 hy;exact (hg i (List.mem_range.1 hi)).2.2.2.2⟩
  ·obtain ⟨i,hi,rfl⟩:=List.mem_map.1 hy
   exact ⟨(hg i (List.mem_range.1 hi)).2.1,(hg i (List.mem_range.1 hi)).2.2.1⟩
  by_cases h0:len=0
  ·subst h0
   exact .inl ⟨_,_,rfl,rfl⟩
  ·right
   obtain ⟨b,o,spot⟩:=a
   have c0:=(hg 0 (by omega)).1 0 _ rfl
   have hspot:spot=none:=by simpa [Addr.add] using World.cell?_spot c0
   subst hspot
   refine ⟨b,o,m,by rw [zZ,List.length_range],by rw [zZ,List.length_range];exact hl,hm,fun e=>h0 (by have:=congrArg List.length e;simpa using this),fun q y hq j v hj=>?_⟩
   rw [List.getElem?_map] at hq
   obtain ⟨q',hq',rfl⟩:=Option.map_eq_some_iff.1 hq
   have hql:q < len:=by have:=(zM.1 hq').1;simpa using this
   have hqe:q'=q:=by rw [List.getElem?_range hql] at hq';exact (Option.some.inj hq').symm
   subst hqe
   have:=(hg q' hql).1 j v hj
   rw [add_add,add_plain] at this
   exact this
end
end Go.Proofs.Ytjehibknlmehmaa
namespace Go.Proofs.Ytjehibknlmehmaa
open Go.Ab Go.Deep
def tyAt (W:World) (b:Nat):TypeId:=match W.heap[b]? with | some (.cells _ T _)=>T | _=>0
theorem tyAt_of {W:World} {b:Nat} {arr:Array Value} {T:TypeId} {fz:Nat×Nat} (h:W.heap[b]?=some (.cells arr T fz)):tyAt W b=T:=by unfold tyAt;rw [h]
def blkOf (v:Value) (sz:Nat):Blk:=match v with | .slice (some a) _ cap=>⟨a.block,cap * sz,sz,a.off⟩ | _=>⟨0,0,0,0⟩
def argAV (i:Nat) (y:Row×Value):AV:=if y.1.args.length=0 then .sc y.2 else .sl (i+2) 0 y.1.args.length
def tabL (l:List (Row×Value)):List (Row×AV):=l.mapIdx fun i y=>(y.1,argAV i y)
def tabAV (v:Value) (l:List (Row×Value)):AV:=if l.length=0 then .sc v else .sl 1 0 l.length
def roRow (W:World) (v:Value) (sz:Nat) (cells:List AV):AO:={ cells:=cells,sz:=sz,ty:=tyAt W (blkOf v sz).b,ro:=true,kind:=.row }
def inObj (W:World) (v:Value) (l:List (Row×Value)):Nat->Option AO
 | 0=>none
 | 1=>if l.length=0 then none else some (roRow W v 6 ((tabL l).flatMap encRA))
 | i+2=>(l[i]?).bind fun y=>if y.1.args.length=0 then none else some (roRow W y.2 2 (y.1.args.flatMap Arg.enc))
def inE (v:Value) (l:List (Row×Value)):Env
 | 0=>none
 | 1=>some (blkOf v 6)
 | i+2=>(l[i]?).map fun y=>blkOf y.2 2
def inAH (W:World) (v:Value) (l:List (Row×Value)):AH where
 obj:=inObj W v l
 next:=l.length+2
 lt:=by
  intro id o h
  match id with
  | 0=>omega
  | 1=>omega
  | i+2=>
   simp only [inObj] at h
   obtain ⟨y,hy,_⟩:=Option.bind_eq_some_iff.1 h
   have:=(zM.1 hy).1
   omega
theorem tabL_get {l:List (Row×Value)} {i:Nat}:(tabL l)[i]?=(l[i]?).map fun y=>(y.1,argAV i y):=by
 unfold tabL;simp
theorem tabL_len (l:List (Row×Value)):(tabL l).length=l.length:=by unfold tabL;simp
section
variable {W:World} {v:Value} {l:List (Row×Value)}
theorem argAV_vr (hin:RowsIn W v l) {i:Nat} {y:Row×Value} (hy:l[i]?=some y):VR (inE v l) (argAV i y) y.2:=by
 unfold argAV
 split
 ·exact .sc _
 ·rename_i hne
  rcases (hin.1 y (zP hy)).1 with ⟨_,_,_,h⟩ | ⟨b,o,cap,hv,h1,h2,_,_⟩
  ·exact absurd (by rw [h];rfl) hne
  ·rw [hv]
   exact .sl (B:=⟨b,cap * 2,2,o⟩) (by simp only [inE,hy,yB,blkOf,hv]) (.inl rfl) (by simp) h1 h2
theorem tabAV_vr (hin:RowsIn W v l):VR (inE v l) (tabAV v l) v:=by
 unfold tabAV
 split
 ·exact .sc _
 ·rename_i hne
  rcases hin.2 with ⟨_,_,_,h⟩ | ⟨b,o,cap,hv,h1,h2,_,_⟩
  ·exact absurd (by rw [h];rfl) hne
  ·rw [hv]
   exact .sl (B:=⟨b,cap * 6,6,o⟩) rfl (.inl rfl) (by simp) h1 h2
theorem in_rel (hin:RowsIn W v l):Rel (inE v l) (inAH W v l) W:=by
 have ro_all:∀ id o,inObj W v l id=some o->o.ro=true:=by
  intro id o h
  match id with
  | 0=>cases h
  | 1=>
   simp only [inObj] at h
   split at h
   ·cases h
   ·simp only [zQ] at h;rw [<-h];rfl
  | i+2=>
   simp only [inObj] at h
   obtain ⟨y,hy,h2⟩:=Option.bind_eq_some_iff.1 h
   split at h2
   ·cases h2
   ·simp only [zQ] at h2;rw [<-h2];rfl
 refine ⟨fun id o h=>?_,fun i j oi oj _ _ hi hj _ _ _=>.inr ⟨ro_all i oi hi,ro_all j oj hj⟩,fun id hid=>?_⟩
 ·match id with
  | 0=>cases h
  | 1=>
   have h:(if l.length=0 then none else some (roRow W v 6 ((tabL l).flatMap encRA)))=some o:=h
   split at h
   ·cases h
   ·rename_i hne
    cases h
    rcases hin.2 with ⟨_,_,_,h⟩ | ⟨b,o,cap,hv,h1,h2,h3,h4⟩
    ·exact absurd (by rw [h];rfl) hne
    ·have hat:AtC (inE v l) W b o ((tabL l).flatMap encRA):=by
      refine atC_of (sz:=6) encRA_len (by omega) (fun e=>h3 (List.length_eq_zero_iff.1 (by have:=congrArg List.length e;rw [tabL_len] at this;exact this))) fun q y hq j hj=>?_
      rw [tabL_get] at hq
      obtain ⟨y',hy',rfl⟩:=Option.map_eq_some_iff.1 hq
      have hc:=h4 q y' hy' j
      match j,hj with
      | 0,_=>exact ⟨_,_,hc _ rfl,rfl,.sc _,rfl⟩
      | 1,_=>exact ⟨_,_,hc _ rfl,rfl,.sc _,rfl⟩
      | 2,_=>
       refine ⟨_,_,hc _ rfl,rfl,argAV_vr hin hy',?_⟩
       obtain ⟨a,len,cap,hs⟩:=(hin.1 y' (zP hy')).2
       rw [hs];rfl
      | 3,_=>exact ⟨_,_,hc _ rfl,rfl,.sc _,rfl⟩
      | 4,_=>exact ⟨_,_,hc _ rfl,rfl,.sc _,rfl⟩
      | 5,_=>exact ⟨_,_,hc _ rfl,rfl,.sc _,rfl⟩
     obtain ⟨arr,T,fz',hb,hcr⟩:=hat
     have hbk:blkOf v 6=⟨b,cap * 6,6,o⟩:=by rw [hv];rfl
     refine ⟨blkOf v 6,rfl,⟨arr,fz',?_,(fun hro=>by cases hro),?_,by rw [hbk];rfl,by rw [hbk];exact hcr⟩⟩
     ·show W.heap[(blkOf v 6).b]?=some (.cells arr (tyAt W (blkOf v 6).b) fz')
      rw [hbk,tyAt_of hb];exact hb
     ·show ((tabL l).flatMap encRA).length<=(blkOf v 6).n
      rw [hbk,flat_len encRA_len,tabL_len]
      exact Nat.mul_le_mul_right _ h1
  | i+2=>
   have h:((l[i]?).bind fun y=>if y.1.args.length=0 then none else some (roRow W y.2 2 (y.1.args.flatMap Arg.enc)))=some o:=h
   obtain ⟨y,hy,h2⟩:=Option.bind_eq_some_iff.1 h
   split at h2
   ·cases h2
   ·rename_i hne
    cases h2
    rcases (hin.1 y (zP hy)).1 with ⟨_,_,_,h⟩ | ⟨b,o,cap,hv,h1,h2,h3,h4⟩
    ·exact absurd (by rw [h];rfl) hne
    ·obtain ⟨arr,T,fz',hb,hcr⟩:=h4 (inE v l)
     have hbk:blkOf y.2 2=⟨b,cap * 2,2,o⟩:=by rw [hv];rfl
     refine ⟨blkOf y.2 2,by simp only [inE,hy,yB],⟨arr,fz',?_,(fun hro=>by cases hro),?_,by rw [hbk];rfl,by rw [hbk];exact hcr⟩⟩
     ·show W.heap[(blkOf y.2 2).b]?=some (.cells arr (tyAt W (blkOf y.2 2).b) fz')
      rw [hbk,tyAt_of hb];exact hb
     ·show (y.1.args.flatMap Arg.enc).length<=(blkOf y.2 2).n
      rw [hbk,flat_len Arg.enc_len]
      exact Nat.mul_le_mul_right _ h1
 ·match id,hid with
  | i+2,hid=>
   have:l.length<=i:=by have hh:l.length+2<=i+2:=hid;omega
   simp only [inE,List.getElem?_eq_none this,Option.map_none]
theorem in_rows (hin:RowsIn W v l) (hb:∀ y∈l,y.1.args.length<=100000000) (hl:l.length<=100000000):RT (inAH W v l) (tabAV v l) (tabL l):=by
 refine ⟨?_,fun y hy=>⟨?_,?_⟩,by rw [tabL_len];exact hl⟩
 rotate_left 2
 ·obtain ⟨i,hi⟩:=List.mem_iff_getElem?.1 hy
  rw [tabL_get] at hi
  obtain ⟨y',hy',rfl⟩:=Option.map_eq_some_iff.1 hi
  exact hb y' (zP hy')
 ·by_cases h0:l.length=0
  ·have:l=[]:=List.length_eq_zero_iff.1 h0
   subst this
   rcases hin.2 with ⟨a,c,hv,_⟩ | ⟨_,_,_,_,_,_,h,_⟩
   ·exact .inr (.inl ⟨a,c,by rw [hv];rfl,rfl⟩)
   ·exact absurd rfl h
  ·refine .inr (.inr ⟨1,[],true,tyAt W (blkOf v 6).b,?_,fun h=>(by cases h),?_⟩)
   ·unfold tabAV;rw [zW h0,tabL_len]
   ·show (if l.length=0 then none else some (roRow W v 6 ((tabL l).flatMap encRA)))=_
    rw [zW h0,List.append_nil];rfl
 ·obtain ⟨i,hi⟩:=List.mem_iff_getElem?.1 hy
  rw [tabL_get] at hi
  obtain ⟨y',hy',rfl⟩:=Option.map_eq_some_iff.1 hi
  show SlR Arg.enc 2 44 _ (argAV i y') y'.1.args
  by_cases h0:y'.1.args.length=0
  ·have he:y'.1.args=[]:=List.length_eq_zero_iff.1 h0
   unfold argAV
   rw [zX h0,he]
   rcases (hin.1 y' (zP hy')).1 with ⟨a,c,hv,_⟩ | ⟨_,_,_,_,_,_,h,_⟩
   ·exact .inr (.inl ⟨a,c,by rw [hv],rfl⟩)
   ·exact absurd he h
  ·refine .inr (.inr ⟨i+2,[],true,tyAt W (blkOf y'.2 2).b,?_,fun h=>(by cases h),?_⟩)
   ·unfold argAV;rw [zW h0]
   ·show ((l[i]?).bind fun y=>if y.1.args.length=0 then none else some (roRow W y.2 2 (y.1.args.flatMap Arg.enc)))=_
    rw [hy',Option.bind_some,zW h0,List.append_nil];rfl
end
end Go.Proofs.Ytjehibknlmehmaa
namespace Go.Ab
open Go.RowKit
def AH.empty:AH:=⟨fun _=>none,0,fun _ _ h=>by cases h⟩
theorem Rel.empty (w:World):Rel (fun _=>none) AH.empty w:=⟨fun _ _ h=>(by cases h),fun _ _ _ _ _ _ h=>(by cases h),fun _ _=>rfl⟩
theorem Step.below {E E':Env} {h h':AH} {w w':World} (s:Step E h (fun _=>False) w E' h' w'):Below w.heap.size w w':=⟨s.os,s.tape,s.output,s.size,fun b hb=>s.frame b hb fun _ _ _ hm=>hm.elim⟩
end Go.Ab
namespace Go.Proofs.Ytjehibknlmehmaa
open Go.ChangeShapes Go.WideShapes Go.ChangeAt Go.RowKit Go.ChangeMaps
section
variable {H:Type} {enc:TypeId×Value->H} {P:Program}
theorem post_of_below {f:Func} {s:ChangeSpec} {apart fresh handsOn again:Bool} {W W':World} {args:Array Value} {v:Value} {ds gs:List (DataW H)} {before pa pv:List MemPlace}
  (hW:DataW.Whole enc P f.params.toList s.vars apart W args.toList ds gs before)
  (hres:∀ (b:Nat) (sp:Nat->Bool) (hd:Bool),DataW.TrodAll enc P W' b sp hd f.resultTypes.toList (v.resultList f.resultTypes.size) (s.fn H (ds++gs)).results [])
  (hargs:∀ sp:Nat->Bool,(∀ p∈before,sp p.block=true)->DataW.TrodAll enc P W' 0 sp true f.params.toList args.toList (s.fn H (ds++gs)).args pa)
  (hvars:∀ sp:Nat->Bool,(∀ p∈before,sp p.block=true)->DataW.TrodVars enc P W' sp s.vars (s.fn H (ds++gs)).vars pv)
  (hps:before=pa++pv) (hb:Below W.heap.size W W')
  (hok:∀ (j:Nat) (t:TypeId) (r:Value),f.resultTypes[j]?=some t->(v.resultList f.resultTypes.size)[j]?=some r->Value.okWide P W' .any 0 t r) :
  s.post enc P f apart fresh handsOn again W args v W':=by
 have hlt:∀ p∈before,p.block < W.heap.size:=fun p hp=>hW.lt p hp
 have hold:∀ p∈before,(fun b=>decide (b < W.heap.size)) p.block=true:=fun p hp=>by simpa using hlt p hp
 refine ⟨ds,gs,before,[],pa,pv,hW,hres _ _ _,hargs _ hold,hvars _ hold,World.keptBut_mono (fun p hp=>⟨hp,?_⟩) (hb.frame (·∈before)),fun _=>?_⟩
 ·rw [hps,List.mem_append] at hp
  exact Or.inr hp
 ·obtain ⟨_,_,_,_,_,hz,hn⟩:=hW
  refine ⟨hok,_,_,([]++pa)++pv,⟨[]++pa,pv,trodAll_append (hargs _ (fun _ _=>rfl)) (hres _ _ _),hvars _ (fun _ _=>rfl),rfl,?_,?_⟩,?_⟩
  ·intro b off hp
   have hin:MemPlace.cell b off∈before:=by rw [hps];simpa using hp
   rw [hb.frozen (hlt _ hin)]
   exact hz b off hin
  ·intro ha
   have:=hn ha
   rw [hps] at this
   simpa using this
  ·intro p hp _
   rw [hps]
   simpa using hp
end
theorem Try.own:ownKnob Try.prog.godebug=none:=by kernel_rfl
theorem Try.laidOut:laidOutB Try.prog=true:=by kernel_rfl
end Go.Proofs.Ytjehibknlmehmaa
namespace Go.Proofs.Ytjehibknlmehmaa
open Go.ChangeShapes Go.WideShapes Go.ChangeAt Go.RowKit Go.ChangeMaps Go.Ab
theorem args_len {l:List Arg}:8 * l.length<=argsW l:=by
 unfold argsW
 induction l with
 | nil=>simp
 | cons a l ih=>simp only [List.map_cons,List.sum_cons,List.length_cons];omega
theorem rows_len {l:List Row}:8 * l.length<=rowsW l:=by
 unfold rowsW
 induction l with
 | nil=>simp
 | cons a l ih=>simp only [List.map_cons,List.sum_cons,List.length_cons,rowW];omega
theorem rows_mem {l:List Row} {r:Row} (h:r∈l):8 * r.args.length<=rowsW l:=by
 unfold rowsW
 induction l with
 | nil=>cases h
 | cons a l ih=>
  simp only [List.map_cons,List.sum_cons]
  rcases List.mem_cons.1 h with rfl | h
  ·have:=args_len (l:=r.args);unfold rowW;omega
  ·have:=ih h;omega
theorem rows_any {W:World} {v:Value} {l:List (Row×Value)} (hin:RowsIn W v l) (hs:rowsW (l.map (·.1))<=500000000) (hn:∀ y∈l,y.1.num<=9223372036854775807) :
  Calls Try.prog 3 #[v] W fun e w'=>e=.returned (.bool true)/\Below W.heap.size W w':=by
 have hb:∀ y∈l,y.1.args.length<=100000000:=fun y hy=>by have:=rows_mem (List.mem_map_of_mem (f:=(·.1)) hy);omega
 have hl:l.length<=100000000:=by have:=rows_len (l:=l.map (·.1));rw [zZ] at this;omega
 have hn':∀ y∈tabL l,y.1.num<=9223372036854775807:=fun y hy=>by
  obtain ⟨i,hi⟩:=List.mem_iff_getElem?.1 hy
  rw [tabL_get] at hi
  obtain ⟨y',hy',rfl⟩:=Option.map_eq_some_iff.1 hi
  exact hn y' (zP hy')
 have hc:ACalls Try.prog 3 [tabAV v l] (inAH W v l) (fun _=>False) (fun ae _=>ae=.ret (B true)):=law_rows (in_rows hin hb hl) hn' fun _ _=>rfl
 refine (hc _ W [v] (in_rel hin) (.cons (tabAV_vr hin) .nil)).mono ?_
 rintro e w' ⟨E',h',ae,hst,he,rfl⟩
 refine ⟨?_,hst.below⟩
 cases e <;> first | exact he.elim | skip
 cases he
 rfl
theorem below_same {W W':World} (hb:Below W.heap.size W W') {x:MemPlace} (hx:x.block < W.heap.size):W.sameAt W' x:=by
 cases x with
 | cell b off=>
  show W'.cell? ⟨b,off,none⟩=W.cell? ⟨b,off,none⟩
  unfold World.cell?
  rw [hb.block b hx]
 | map b=>exact hb.block b hx
theorem slice_own {W:World} {base:Nat} {v v1:Value} (h:Value.okWide Try.prog W .any base 22 v) (hc:v.cells.toList=[v1]):v=v1:=by
 unfold Value.okWide at h
 rw [Try.underlying22] at h
 simp only [Cell.okWide,Cell.ok,Try.underlying22] at h
 cases v <;> simp_all [Value.cells]
theorem rows_contract (H:Type) (enc:TypeId×Value->H) (W:World) (base:Nat) (args:Array Value) (ds gs:List (DataW H)) (before:List MemPlace)
  (hval:∀ (j:Nat) t v,Try.f3.params[j]?=some t->args[j]?=some v->Value.okWide Try.prog W .any base t v)
  (hW:DataW.Whole enc Try.prog Try.f3.params.toList Rows.flatRowsSpec.vars false W args.toList ds gs before) (hk:Rows.uptoSmall H (ds++gs)=true) :
  Calls Try.prog 3 args W fun e W'=>∃ v,e=.returned v/\Rows.flatRowsSpec.post enc Try.prog Try.f3 false true false false W args v W':=by
 have hW':=hW
 obtain ⟨p,q,hA0,hV,rfl,hfz,hnd⟩:=hW
 have hA:DataW.TrodAll enc Try.prog W 0 (fun _=>true) true Try.f3.params.toList args.toList ds p:=hA0
 rw [Try.params3] at hA hval
 obtain ⟨v0,d0,rfl,rfl,h0⟩:=trodAll_one hA
 obtain ⟨rfl,rfl⟩:=trodVars_none hV
 clear hA0
 simp only [List.append_nil] at hW'
 have h00:=h0
 obtain ⟨fuel,hf⟩:=h0
 obtain ⟨v1,l,hc,hin,hs,hnum⟩:=rows_open hf
 have hv:=slice_own (hval 0 22 v0 rfl rfl) hc
 subst hv
 have hbulk:Rows.uptoBulk d0<=1048576:=by
  have:=of_decide_eq_true hk
  simp only [List.append_nil,Rows.uptoBulkAll] at this
  omega
 have hs:rowsW (l.map (·.1))<=8 * Rows.uptoBulk d0:=hs
 refine (rows_any hin (by omega) hnum).mono fun e W' ⟨he,hbl⟩=>?_
 subst he
 have hsame:∀ x∈p,W.sameAt W' x:=fun x hx=>below_same hbl (hW'.lt x hx)
 exact ⟨_,rfl,post_of_below (pa:=p) (pv:=[]) hW' (fun _ _ _=>trodAll_mk1 (shut_bool Try.underlying4 true)) (fun sp hsp=>trodAll_mk1 (WideElems.Trod_stays (P:=Try.prog) Try.laidOut (by kernel_rfl) (of_decide_eq_true (by kernel_rfl)) h00 hsame hsp)) (fun _ _=>rfl) (by simp) hbl (ok_one (by kernel_rfl) rfl (okWide_bool_mk Try.underlying4 true))⟩
theorem rows_reads (os:Os) {H:Type} (enc:TypeId×Value->H):∃ places,DataW.whole enc Try.prog ((World.holding Try.prog os ⟨#[],#[],[]⟩).forCall (fun _ _=>0) ⟨#[],#[.slice none 0 0],[]⟩).memory Try.f3.params.toList Rows.flatRowsSpec.vars false #[Value.slice none 0 0].toList 8=some ([.nil],[],places):=
 ⟨[],by kernel_rfl⟩
theorem rows_lifted (os:Os) (started:os.Started) (H:Type) (enc:TypeId×Value->H) (F:Stop.Interp) :
  ReturnsInHanded {} Try.checked os 3 .any ((Rows.OpenSpec.upto Rows.flatRowsSpec).preRow enc Try.prog Try.f3 Rows.flatRowsUptoRow.domain false Rows.flatRowsUptoRow.laid) (((Rows.OpenSpec.upto Rows.flatRowsSpec).at F).post enc Try.prog Try.f3 false true false false):=by
 obtain ⟨places,hx⟩:=rows_reads os enc
 refine returnsInHanded_of_row (C:=Try.checked) (s:=Rows.OpenSpec.upto Rows.flatRowsSpec) Try.own started (by kernel_rfl) Try.func3
  (witness_row_at (enc:=enc) (C:=Try.checked) false (World.holding Try.prog os ⟨#[],#[],[]⟩) #[.slice none 0 0] rfl (by kernel_rfl) (by kernel_rfl) (by kernel_rfl)
   (OpenSpec.preRow_of_cond 8 hx (by kernel_rfl) (fun k hk=>by cases hk;kernel_rfl) (by kernel_rfl) (show laidMet Try.prog Rows.flatRowsUptoRow.laid _ from laidMet_of_run' 80 (by kernel_rfl) (by kernel_rfl)))) ?_
 intro W base args ds gs before hval hW _ hcond _ _ _ _
 exact rows_contract H enc W base args ds gs before hval hW (hcond _ rfl)
theorem flatrows_said:Rows.FlatRowsUptoSaid:=
 OpenClaim.holds_of_cond 3 Try.f3 rfl rfl rfl rfl rfl rfl rfl ⟨rfl,rfl,rfl,rfl,rfl⟩ rfl rfl rfl rfl rfl (by kernel_rfl) Try.func3 (by kernel_rfl)
  (of_decide_eq_true (by kernel_rfl)) (by unfold Func.isWrapper;first | (rw [zX (by decide +kernel)];kernel_rfl) | (rw [zW (by decide +kernel)];exact ⟨rfl,rfl⟩))
  (fun os started H enc _ F=>by rw [OpenClaim.pre_eq_preRow];exact rows_lifted os started H enc F)
end Go.Proofs.Ytjehibknlmehmaa
