/- A circuit of gates, put before its inverse and run, leaves nothing. No condition. -/
import Derived.Test.YtbdibjgoeeokoaaRows
import Derived.Deep.SlicePairs
import Derived.ProofKit
import Derived.Below
import Derived.ChangeSame
import Derived.ChangeMaps5
import Derived.WalkKit
import Derived.OpenShut
import Derived.WideKeyArgs
import Derived.Deep.DeepHandedRow
import Derived.Test.YtbdibjgoeeokoaaOe
set_option maxRecDepth 100000
namespace Go.Proofs.Ytbdibjgoeeokoaa
section
open Go.Ab Go.Deep Go.ChangeShapes Go.WideShapes
instance:Inhabited COp:=⟨⟨0,⟨#[]⟩,[],0,false,0,0⟩⟩
def AtC(E:Env)(W:World)(b o:Nat)(cs:List AV):Prop:=∃arr T fz,W.heap[b]?=some (.cells arr T fz)/\CRb E o cs arr
theorem cell_arr{W:World}{b o:Nat}{v:Value}(h:W.cell? ⟨b,o,none⟩=some v):∃arr T fz,W.heap[b]?=some (.cells arr T fz)/\arr[o]?=some v:=by
 unfold World.cell? at h
 split at h
 ·rename_i c T fz hc
  simp at h
  exact⟨c,T,fz,hc,h⟩
 ·cases h
theorem atC_of{α:Type}{E:Env}{W:World}{b o sz:Nat}{f:α->List AV}{l:List α}(hf:∀y,(f y).length=sz)(hs:0<sz)(hl:l≠[])
  (h:∀q y,l[q]?=some y->∀j,j<sz->∃v c,W.cell? ⟨b,o+(q*sz+j),none⟩=some v/\(f y)[j]?=some c/\VR E c v/\v.oneCell'=true):AtC E W b o (l.flatMap f):=by
 have hpos:0<l.length:=List.length_pos_iff.2 hl
 obtain⟨v0,_,h0,_⟩:=h 0 l[0] (zJ hpos) 0 hs
 obtain⟨arr,T,fz,hb,_⟩:=cell_arr h0
 refine⟨arr,T,fz,hb,fun i c hi=>?_⟩
 have hil:i<l.length*sz:=by rw[<-flat_len hf l];exact(zM.1 hi).1
 have hq:i/sz<l.length:=Nat.div_lt_of_lt_mul (by rw[Nat.mul_comm];exact hil)
 have hj:i%sz<sz:=Nat.mod_lt _ hs
 have he:i/sz*sz+i%sz=i:=by rw[Nat.mul_comm];exact Nat.div_add_mod i sz
 obtain⟨v,c',h1,h2,h3,h4⟩:=h (i/sz) l[i/sz] (zJ hq) (i%sz) hj
 have hg:=flat_get hf l (i/sz) (i%sz) hj
 rw[he,zJ hq]at hg
 rw[hg]at hi
 simp only[Option.bind_some]at hi
 rw[h2]at hi
 cases hi
 obtain⟨arr',T',fz',hb',ha⟩:=cell_arr h1
 rw[hb]at hb';cases hb'
 rw[he]at ha
 exact⟨v,ha,h3,h4⟩
section
variable {H:Type} {enc:TypeId×Value->H} {W:World}
def IntsIn(W:World)(v:Value)(l:List Int):Prop:=
 (∃a c,v=.slice a 0 c/\l=[])\/∃b o cap,v=.slice (some ⟨b,o,none⟩) l.length cap/\l.length<=cap/\cap<=maxLen/\l≠[]/\∀E,AtC E W b o (l.flatMap encI)
theorem ints_open{fuel:Nat}{cs:List Value}{x:DataW H×List MemPlace}(h:DataW.trod enc Try.prog W 0 (fun _=>true) true fuel 42 cs=some x) :
  ∃v l,cs=[v]/\IntsIn W v l/\(∃a len cap,v=.slice a len cap):=by
 rcases open_slice Try.underlying42 h with⟨rfl,rfl⟩ |⟨a,len,cap,m,n,D,Pl,rfl,hb,hl,hm,hmm,rfl,hx⟩
 ·exact⟨_,[],rfl,.inl ⟨none,0,rfl,rfl⟩,⟨_,_,_,rfl⟩⟩
 ·simp only[zV]at hmm
  subst hmm
  rw[show Try.prog.cellsOf 3=1 by kernel_rfl]at hx
  have each:∀i,i<len->∃z:Int,W.cell? (a.add (i*1))=some (.int .i64 z):=by
   intro i hi
   obtain⟨cs',h1,h2⟩:=hx i (by omega)
   obtain⟨_,hlen,hcell⟩:=World.cells?_some h1
   obtain⟨z,rfl,_,_⟩:=DataW.trod_int Try.underlying3 h2
   have:=hcell 0 (by omega)
   rw[show(a.add (i*1)).add 0=a.add (i*1) by simp[Addr.add]]at this
   exact⟨z,by rw[this];rfl⟩
  obtain⟨g,hg⟩:=choose_lt (α:=Int) each
  refine⟨_,(List.range len).map g,rfl,?_,⟨_,_,_,rfl⟩⟩
  by_cases h0:len=0
  ·subst h0
   exact .inl ⟨_,_,rfl,rfl⟩
  ·right
   obtain⟨b,o,spot⟩:=a
   have c0:=hg 0 (by omega)
   have hspot:spot=none:=by simpa[Addr.add] using World.cell?_spot c0
   subst hspot
   refine⟨b,o,m,by rw[zZ,List.length_range],by rw[zZ,List.length_range];exact hl,hm,fun e=>h0 (by have:=congrArg List.length e;simpa using this),fun E=>?_⟩
   refine atC_of (sz:=1) encI_len (by omega) (fun e=>h0 (by have:=congrArg List.length e;simpa using this)) fun q y hq j hj=>?_
   rw[List.getElem?_map]at hq
   obtain⟨q',hq',rfl⟩:=Option.map_eq_some_iff.1 hq
   have hql:q<len:=by have:=(zM.1 hq').1;simpa using this
   have hqe:q'=q:=by rw[List.getElem?_range hql]at hq';exact(Option.some.inj hq').symm
   subst hqe
   have a0:=hg q' hql
   rw[add_plain]at a0
   match j,hj with
   |0,_=>exact⟨_,_,by rw[Nat.add_zero];exact a0,rfl,.sc _,rfl⟩
def cellsOfOp(y:COp×Value):List Value:=[.int .i64 y.1.kind,.string y.1.name,y.2,.int .i64 y.1.bit,.bool y.1.cond,.int .u64 y.1.mask,.int .u64 y.1.value]
def OpsIn(W:World)(v:Value)(l:List (COp×Value)):Prop:=
 (∀y∈l,IntsIn W y.2 y.1.qubits/\(∃a len cap,y.2=.slice a len cap)/\MOK y.1) /\
 ((∃a c,v=.slice a 0 c/\l=[])\/∃b o cap,v=.slice (some ⟨b,o,none⟩) l.length cap/\l.length<=cap/\cap<=maxLen/\l≠[]/\∀q y,l[q]?=some y->∀j v,(cellsOfOp y)[j]?=some v->W.cell? ⟨b,o+(q*7+j),none⟩=some v)
theorem op_open{fuel:Nat}{cs:List Value}{x:DataW H×List MemPlace}(h:DataW.trod enc Try.prog W 0 (fun _=>true) true fuel 45 cs=some x) :
  ∃y:COp×Value,cs=cellsOfOp y/\IntsIn W y.2 y.1.qubits/\(∃a len cap,y.2=.slice a len cap)/\MOK y.1:=by
 obtain⟨xs,n,_,rfl,hl,hxl,hf⟩:=DataW.trod_struct Try.underlying45 h
 rw[show Try.prog.cellsOf 45=7 by kernel_rfl]at hl
 match cs,hl,xs,hxl with
 |[c0,c1,c2,c3,c4,c5,c6],_,[y0,y1,y2,y3,y4,y5,y6],_=>
  have t0:=hf 0 _ rfl
  have t1:=hf 1 _ rfl
  have t2:=hf 2 _ rfl
  have t3:=hf 3 _ rfl
  have t4:=hf 4 _ rfl
  have t5:=hf 5 _ rfl
  have t6:=hf 6 _ rfl
  have k9:Try.prog.cellsOf 9=1:=by kernel_rfl
  have k35:Try.prog.cellsOf 42=1:=by kernel_rfl
  have k3:Try.prog.cellsOf 3=1:=by kernel_rfl
  have k4:Try.prog.cellsOf 4=1:=by kernel_rfl
  have k36:Try.prog.cellsOf 43=1:=by kernel_rfl
  simp[k9,k35,k3,k4,k36]at t0 t1 t2 t3 t4 t5 t6
  obtain⟨z0,h0,_,_⟩:=DataW.trod_int Try.underlying3 t0
  obtain⟨s1,h1,_,_⟩:=DataW.trod_string Try.underlying9 t1
  obtain⟨v,l,h2,ha,hs⟩:=ints_open t2
  obtain⟨z3,h3,_,_⟩:=DataW.trod_int Try.underlying3 t3
  obtain⟨b4,h4,_⟩:=DataW.trod_bool Try.underlying4 t4
  obtain⟨z5,h5,_,w5⟩:=DataW.trod_int Try.underlying43 t5
  obtain⟨z6,h6,_,w6⟩:=DataW.trod_int Try.underlying43 t6
  simp at h0 h1 h2 h3 h4 h5 h6
  subst h0 h1 h2 h3 h4 h5 h6
  refine⟨(⟨z0,s1,l,z3,b4,z5,z6⟩,c2),rfl,ha,hs,?_⟩
  simp[Lit.wf]at w5 w6
  have hmx:IntKind.u64.max=18446744073709551615:=by decide
  have hmn:IntKind.u64.min=0:=by decide
  unfold MOK
  simp only
  omega
theorem ops_open{fuel:Nat}{cs:List Value}{x:DataW H×List MemPlace}(h:DataW.trod enc Try.prog W 0 (fun _=>true) true fuel 22 cs=some x) :
  ∃v l,cs=[v]/\OpsIn W v l:=by
 rcases open_slice Try.underlying22 h with⟨rfl,rfl⟩ |⟨a,len,cap,m,n,D,Pl,rfl,hb,hl,hm,hmm,rfl,hx⟩
 ·exact⟨_,[],rfl,⟨by simp,.inl ⟨none,0,rfl,rfl⟩⟩⟩
 ·simp only[zV]at hmm
  subst hmm
  rw[show Try.prog.cellsOf 45=7 by kernel_rfl]at hx
  have each:∀i,i<len->∃y:COp×Value,(∀j v,(cellsOfOp y)[j]?=some v->W.cell? ((a.add (i*7)).add j)=some v)/\IntsIn W y.2 y.1.qubits/\(∃a len cap,y.2=.slice a len cap)/\MOK y.1:=by
   intro i hi
   obtain⟨cs',h1,h2⟩:=hx i (by omega)
   obtain⟨_,hlen,hcell⟩:=World.cells?_some h1
   obtain⟨y,rfl,h3,h4,h5⟩:=op_open h2
   refine⟨y,fun j v hj=>?_,h3,h4,h5⟩
   have:j<7:=by have:=(zM.1 hj).1;simpa[cellsOfOp] using this
   rw[hcell j this,hj]
  obtain⟨g,hg⟩:=choose_lt (α:=COp×Value) each
  refine⟨_,(List.range len).map g,rfl,⟨fun y hy=>?_,?_⟩⟩
  ·obtain⟨i,hi,rfl⟩:=List.mem_map.1 hy
   exact(hg i (List.mem_range.1 hi)).2
  by_cases h0:len=0
  ·subst h0
   exact .inl ⟨_,_,rfl,rfl⟩
  ·right
   obtain⟨b,o,spot⟩:=a
   have c0:=(hg 0 (by omega)).1 0 _ rfl
   have hspot:spot=none:=by simpa[Addr.add] using World.cell?_spot c0
   subst hspot
   refine⟨b,o,m,by rw[zZ,List.length_range],by rw[zZ,List.length_range];exact hl,hm,fun e=>h0 (by have:=congrArg List.length e;simpa using this),fun q y hq j v hj=>?_⟩
   rw[List.getElem?_map]at hq
   obtain⟨q',hq',rfl⟩:=Option.map_eq_some_iff.1 hq
   have hql:q<len:=by have:=(zM.1 hq').1;simpa using this
   have hqe:q'=q:=by rw[List.getElem?_range hql]at hq';exact(Option.some.inj hq').symm
   subst hqe
   have:=(hg q' hql).1 j v hj
   rw[add_add,add_plain]at this
   exact this
theorem cir_open{fuel:Nat}{cs:List Value}{x:DataW H×List MemPlace}(h:DataW.trod enc Try.prog W 0 (fun _=>true) true fuel 24 cs=some x) :
  ∃q b v l,cs=[.int .i64 q,.int .i64 b,v]/\OpsIn W v l:=by
 obtain⟨xs,n,_,rfl,hl,hxl,hf⟩:=DataW.trod_struct Try.underlying24 h
 rw[show Try.prog.cellsOf 24=3 by kernel_rfl]at hl
 match cs,hl,xs,hxl with
 |[c0,c1,c2],_,[y0,y1,y2],_=>
  have t0:=hf 0 _ rfl
  have t1:=hf 1 _ rfl
  have t2:=hf 2 _ rfl
  have k22:Try.prog.cellsOf 22=1:=by kernel_rfl
  have k3:Try.prog.cellsOf 3=1:=by kernel_rfl
  simp[k22,k3]at t0 t1 t2
  obtain⟨z0,h0,_,_⟩:=DataW.trod_int Try.underlying3 t0
  obtain⟨z1,h1,_,_⟩:=DataW.trod_int Try.underlying3 t1
  obtain⟨v,l,h2,ho⟩:=ops_open t2
  simp at h0 h1 h2
  subst h0 h1 h2
  exact⟨z0,z1,c2,l,rfl,ho⟩
end
end
section
open Go.Ab Go.Deep
def tyAt(W:World)(b:Nat):TypeId:=match W.heap[b]? with |some (.cells _ T _)=>T |_=>0
theorem tyAt_of{W:World}{b:Nat}{arr:Array Value}{T:TypeId}{fz:Nat×Nat}(h:W.heap[b]?=some (.cells arr T fz)):tyAt W b=T:=by unfold tyAt;rw[h]
def blkOf(v:Value)(sz:Nat):Blk:=match v with |.slice (some a) _ cap=>⟨a.block,cap*sz,sz,a.off⟩ |_=>⟨0,0,0,0⟩
def qAV(i:Nat)(y:COp×Value):AV:=if y.1.qubits.length=0 then .sc y.2 else .sl (i+2) 0 y.1.qubits.length
def tabL(l:List (COp×Value)):List (COp×AV):=l.mapIdx fun i y=>(y.1,qAV i y)
def tabAV(v:Value)(l:List (COp×Value)):AV:=if l.length=0 then .sc v else .sl 1 0 l.length
def roRow(W:World)(v:Value)(sz:Nat)(cells:List AV):AO:={ cells:=cells,sz:=sz,ty:=tyAt W (blkOf v sz).b,ro:=true,kind:=.row }
def inObj(W:World)(v:Value)(l:List (COp×Value)):Nat->Option AO
 |0=>none
 |1=>if l.length=0 then none else some (roRow W v 7 ((tabL l).flatMap encO))
 |i+2=>(l[i]?).bind fun y=>if y.1.qubits.length=0 then none else some (roRow W y.2 1 (y.1.qubits.flatMap encI))
def inE(v:Value)(l:List (COp×Value)):Env
 |0=>none
 |1=>some (blkOf v 7)
 |i+2=>(l[i]?).map fun y=>blkOf y.2 1
def inAH(W:World)(v:Value)(l:List (COp×Value)):AH where
 obj:=inObj W v l
 next:=l.length+2
 lt:=by
  intro id o h
  match id with
  |0=>omega
  |1=>omega
  |i+2=>
   simp only[inObj]at h
   obtain⟨y,hy,_⟩:=Option.bind_eq_some_iff.1 h
   have:=(zM.1 hy).1
   omega
theorem tabL_fst(l:List (COp×Value)):(tabL l).map (·.1)=l.map (·.1):=by
 unfold tabL
 apply List.ext_getElem?
 intro i
 simp
 cases l[i]?<;>rfl
theorem tabL_get{l:List (COp×Value)}{i:Nat}:(tabL l)[i]?=(l[i]?).map fun y=>(y.1,qAV i y):=by
 unfold tabL;simp
theorem tabL_len(l:List (COp×Value)):(tabL l).length=l.length:=by unfold tabL;simp
section
variable {W:World} {v:Value} {l:List (COp×Value)}
theorem qAV_vr(hin:OpsIn W v l){i:Nat}{y:COp×Value}(hy:l[i]?=some y):VR (inE v l) (qAV i y) y.2:=by
 unfold qAV
 split
 ·exact .sc _
 ·rename_i hne
  rcases(hin.1 y (zP hy)).1 with⟨_,_,_,h⟩ |⟨b,o,cap,hv,h1,h2,_,_⟩
  ·exact absurd (by rw[h];rfl) hne
  ·rw[hv]
   exact .sl (B:=⟨b,cap*1,1,o⟩) (by simp only[inE,hy,yB,blkOf,hv]) (.inl rfl) (by simp) h1 h2
theorem tabAV_vr(hin:OpsIn W v l):VR (inE v l) (tabAV v l) v:=by
 unfold tabAV
 split
 ·exact .sc _
 ·rename_i hne
  rcases hin.2 with⟨_,_,_,h⟩ |⟨b,o,cap,hv,h1,h2,_,_⟩
  ·exact absurd (by rw[h];rfl) hne
  ·rw[hv]
   exact .sl (B:=⟨b,cap*7,7,o⟩) rfl (.inl rfl) (by simp) h1 h2
theorem in_rel(hin:OpsIn W v l):Rel (inE v l) (inAH W v l) W:=by
 have ro_all:∀id o,inObj W v l id=some o->o.ro=true:=by
  intro id o h
  match id with
  |0=>cases h
  |1=>
   simp only[inObj]at h
   split at h
   ·cases h
   ·simp only[zQ]at h;rw[<-h];rfl
  |i+2=>
   simp only[inObj]at h
   obtain⟨y,hy,h2⟩:=Option.bind_eq_some_iff.1 h
   split at h2
   ·cases h2
   ·simp only[zQ]at h2;rw[<-h2];rfl
 refine⟨fun id o h=>?_,fun i j oi oj _ _ hi hj _ _ _=>.inr ⟨ro_all i oi hi,ro_all j oj hj⟩,fun id hid=>?_⟩
 ·match id with
  |0=>cases h
  |1=>
   have h:(if l.length=0 then none else some (roRow W v 7 ((tabL l).flatMap encO)))=some o:=h
   split at h
   ·cases h
   ·rename_i hne
    cases h
    rcases hin.2 with⟨_,_,_,h⟩ |⟨b,o,cap,hv,h1,h2,h3,h4⟩
    ·exact absurd (by rw[h];rfl) hne
    ·have hat:AtC (inE v l) W b o ((tabL l).flatMap encO):=by
      refine atC_of (sz:=7) encO_len (by omega) (fun e=>h3 (List.length_eq_zero_iff.1 (by have:=congrArg List.length e;rw[tabL_len]at this;exact this))) fun q y hq j hj=>?_
      rw[tabL_get]at hq
      obtain⟨y',hy',rfl⟩:=Option.map_eq_some_iff.1 hq
      have hc:=h4 q y' hy' j
      match j,hj with
      |0,_=>exact⟨_,_,hc _ rfl,rfl,.sc _,rfl⟩
      |1,_=>exact⟨_,_,hc _ rfl,rfl,.sc _,rfl⟩
      |2,_=>
       refine⟨_,_,hc _ rfl,rfl,qAV_vr hin hy',?_⟩
       obtain⟨a,len,cap,hs⟩:=(hin.1 y' (zP hy')).2.1
       rw[hs];rfl
      |3,_=>exact⟨_,_,hc _ rfl,rfl,.sc _,rfl⟩
      |4,_=>exact⟨_,_,hc _ rfl,rfl,.sc _,rfl⟩
      |5,_=>exact⟨_,_,hc _ rfl,rfl,.sc _,rfl⟩
      |6,_=>exact⟨_,_,hc _ rfl,rfl,.sc _,rfl⟩
     obtain⟨arr,T,fz',hb,hcr⟩:=hat
     have hbk:blkOf v 7=⟨b,cap*7,7,o⟩:=by rw[hv];rfl
     refine⟨blkOf v 7,rfl,⟨arr,fz',?_,(fun hro=>by cases hro),?_,by rw[hbk];rfl,by rw[hbk];exact hcr⟩⟩
     ·show W.heap[(blkOf v 7).b]?=some (.cells arr (tyAt W (blkOf v 7).b) fz')
      rw[hbk,tyAt_of hb];exact hb
     ·show((tabL l).flatMap encO).length<=(blkOf v 7).n
      rw[hbk,flat_len encO_len,tabL_len]
      exact Nat.mul_le_mul_right _ h1
  |i+2=>
   have h:((l[i]?).bind fun y=>if y.1.qubits.length=0 then none else some (roRow W y.2 1 (y.1.qubits.flatMap encI)))=some o:=h
   obtain⟨y,hy,h2⟩:=Option.bind_eq_some_iff.1 h
   split at h2
   ·cases h2
   ·rename_i hne
    cases h2
    rcases(hin.1 y (zP hy)).1 with⟨_,_,_,h⟩ |⟨b,o,cap,hv,h1,h2,h3,h4⟩
    ·exact absurd (by rw[h];rfl) hne
    ·obtain⟨arr,T,fz',hb,hcr⟩:=h4 (inE v l)
     have hbk:blkOf y.2 1=⟨b,cap*1,1,o⟩:=by rw[hv];rfl
     refine⟨blkOf y.2 1,by simp only[inE,hy,yB],⟨arr,fz',?_,(fun hro=>by cases hro),?_,by rw[hbk];rfl,by rw[hbk];exact hcr⟩⟩
     ·show W.heap[(blkOf y.2 1).b]?=some (.cells arr (tyAt W (blkOf y.2 1).b) fz')
      rw[hbk,tyAt_of hb];exact hb
     ·show(y.1.qubits.flatMap encI).length<=(blkOf y.2 1).n
      rw[hbk,flat_len encI_len]
      exact Nat.mul_le_mul_right _ h1
 ·match id,hid with
  |i+2,hid=>
   have:l.length<=i:=by have hh:l.length+2<=i+2:=hid;omega
   simp only[inE,List.getElem?_eq_none this,Option.map_none]
theorem in_ops(hin:OpsIn W v l):OpsL (inAH W v l) (tabAV v l) (tabL l):=by
 refine⟨?_,fun y hy=>?_⟩
 ·by_cases h0:l.length=0
  ·have:l=[]:=List.length_eq_zero_iff.1 h0
   subst this
   rcases hin.2 with⟨a,c,hv,_⟩ |⟨_,_,_,_,_,_,h,_⟩
   ·exact .inr (.inl ⟨a,c,by rw[hv];rfl,rfl⟩)
   ·exact absurd rfl h
  ·refine .inr (.inr ⟨1,[],true,tyAt W (blkOf v 7).b,?_,fun h=>(by cases h),?_⟩)
   ·unfold tabAV;rw[zW h0,tabL_len]
   ·show(if l.length=0 then none else some (roRow W v 7 ((tabL l).flatMap encO)))=_
    rw[zW h0,List.append_nil];rfl
 ·obtain⟨i,hi⟩:=List.mem_iff_getElem?.1 hy
  rw[tabL_get]at hi
  obtain⟨y',hy',rfl⟩:=Option.map_eq_some_iff.1 hi
  show SlR encI 1 3 _ (qAV i y') y'.1.qubits
  by_cases h0:y'.1.qubits.length=0
  ·have he:y'.1.qubits=[]:=List.length_eq_zero_iff.1 h0
   unfold qAV
   rw[zX h0,he]
   rcases(hin.1 y' (zP hy')).1 with⟨a,c,hv,_⟩ |⟨_,_,_,_,_,_,h,_⟩
   ·exact .inr (.inl ⟨a,c,by rw[hv],rfl⟩)
   ·exact absurd he h
  ·refine .inr (.inr ⟨i+2,[],true,tyAt W (blkOf y'.2 1).b,?_,fun h=>(by cases h),?_⟩)
   ·unfold qAV;rw[zW h0]
   ·show((l[i]?).bind fun y=>if y.1.qubits.length=0 then none else some (roRow W y.2 1 (y.1.qubits.flatMap encI)))=_
    rw[hy',Option.bind_some,zW h0,List.append_nil];rfl
end
end
end Go.Proofs.Ytbdibjgoeeokoaa
namespace Go.Ab
open Go.RowKit
def AH.empty:AH:=⟨fun _=>none,0,fun _ _ h=>by cases h⟩
theorem Rel.empty(w:World):Rel (fun _=>none) AH.empty w:=⟨fun _ _ h=>(by cases h),fun _ _ _ _ _ _ h=>(by cases h),fun _ _=>rfl⟩
theorem Step.below{E E':Env}{h h':AH}{w w':World}(s:Step E h (fun _=>False) w E' h' w'):Below w.heap.size w w':=⟨s.os,s.tape,s.output,s.size,fun b hb=>s.frame b hb fun _ _ _ hm=>hm.elim⟩
end Go.Ab
namespace Go.Proofs.Ytbdibjgoeeokoaa
section
open Go.ChangeShapes Go.WideShapes Go.ChangeAt Go.RowKit Go.ChangeMaps
section
variable {H:Type} {enc:TypeId×Value->H} {P:Program}
theorem post_of_below{f:Func}{s:ChangeSpec}{apart fresh handsOn again:Bool}{W W':World}{args:Array Value}{v:Value}{ds gs:List (DataW H)}{before pa pv:List MemPlace}
  (hW:DataW.Whole enc P f.params.toList s.vars apart W args.toList ds gs before)
  (hres:∀(b:Nat)(sp:Nat->Bool)(hd:Bool),DataW.TrodAll enc P W' b sp hd f.resultTypes.toList (v.resultList f.resultTypes.size) (s.fn H (ds++gs)).results [])
  (hargs:∀sp:Nat->Bool,(∀p∈before,sp p.block=true)->DataW.TrodAll enc P W' 0 sp true f.params.toList args.toList (s.fn H (ds++gs)).args pa)
  (hvars:∀sp:Nat->Bool,(∀p∈before,sp p.block=true)->DataW.TrodVars enc P W' sp s.vars (s.fn H (ds++gs)).vars pv)
  (hps:before=pa++pv) (hb:Below W.heap.size W W')
  (hok:∀(j:Nat)(t:TypeId)(r:Value),f.resultTypes[j]?=some t->(v.resultList f.resultTypes.size)[j]?=some r->Value.okWide P W' .any 0 t r) :
  s.post enc P f apart fresh handsOn again W args v W':=by
 have hlt:∀p∈before,p.block<W.heap.size:=fun p hp=>hW.lt p hp
 have hold:∀p∈before,(fun b=>decide (b<W.heap.size)) p.block=true:=fun p hp=>by simpa using hlt p hp
 refine⟨ds,gs,before,[],pa,pv,hW,hres _ _ _,hargs _ hold,hvars _ hold,World.keptBut_mono (fun p hp=>⟨hp,?_⟩) (hb.frame (·∈before)),fun _=>?_⟩
 ·rw[hps,List.mem_append]at hp
  exact Or.inr hp
 ·obtain⟨_,_,_,_,_,hz,hn⟩:=hW
  refine⟨hok,_,_,([]++pa)++pv,⟨[]++pa,pv,trodAll_append (hargs _ (fun _ _=>rfl)) (hres _ _ _),hvars _ (fun _ _=>rfl),rfl,?_,?_⟩,?_⟩
  ·intro b off hp
   have hin:MemPlace.cell b off∈before:=by rw[hps];simpa using hp
   rw[hb.frozen (hlt _ hin)]
   exact hz b off hin
  ·intro ha
   have:=hn ha
   rw[hps]at this
   simpa using this
  ·intro p hp _
   rw[hps]
   simpa using hp
end
theorem Try.own:ownKnob Try.prog.godebug=none:=by kernel_rfl
theorem Try.laidOut:laidOutB Try.prog=true:=by kernel_rfl
end
section
open Go.ChangeShapes Go.WideShapes Go.ChangeAt Go.RowKit Go.ChangeMaps Go.Ab
theorem maxLen_le:(maxLen:Nat)<=9223372036854775807:=by decide
theorem ops_mok{W:World}{v:Value}{l:List (COp×Value)}(hin:OpsIn W v l):∀y∈tabL l,MOK y.1:=by
 intro y hy
 have:y.1∈l.map (·.1):=by rw[<-tabL_fst];exact List.mem_map_of_mem hy
 obtain⟨z,hz,e⟩:=List.mem_map.1 this
 rw[<-e]
 exact(hin.1 z hz).2.2
theorem ops_cnt{W:World}{v:Value}{l:List (COp×Value)}(hin:OpsIn W v l):(tabL l).length<=9223372036854775807:=by
 rw[tabL_len]
 have:=maxLen_le
 rcases hin.2 with⟨_,_,_,h⟩ |⟨b,o,cap,hv,h1,h2,_,_⟩
 ·rw[h];simp
 ·omega
theorem any_of{f:FuncId}{W:World}{q b:Int}{v:Value}{l:List (COp×Value)}(hin:OpsIn W v l)(hc:ACalls Try.prog f [.agg [I q,I b,tabAV v l]] (inAH W v l) (fun _=>False) (fun ae _=>ae=.ret (B true))) :
  Calls Try.prog f #[.agg #[.int .i64 q,.int .i64 b,v]] W fun e w'=>e=.returned (.bool true)/\Below W.heap.size W w':=by
 refine(hc _ W [.agg #[.int .i64 q,.int .i64 b,v]] (in_rel hin) (.cons (.agg (vs:=[.int .i64 q,.int .i64 b,v]) (.cons (.sc _) (.cons (.sc _) (.cons (tabAV_vr hin) .nil)))) .nil)).mono ?_
 rintro e w' ⟨E',h',ae,hst,he,rfl⟩
 refine⟨?_,hst.below⟩
 cases e<;>first |exact he.elim |skip
 cases he
 rfl
theorem below_same{W W':World}(hb:Below W.heap.size W W'){x:MemPlace}(hx:x.block<W.heap.size):W.sameAt W' x:=by
 cases x with
 |cell b off=>
  show W'.cell? ⟨b,off,none⟩=W.cell? ⟨b,off,none⟩
  unfold World.cell?
  rw[hb.block b hx]
 |map b=>exact hb.block b hx
theorem cir_own{W:World}{base:Nat}{v a b c:Value}(h:Value.okWide Try.prog W .any base 24 v)(hc:v.cells.toList=[a,b,c]):v=.agg #[a,b,c]:=by
 obtain⟨cs,rfl,_⟩:=okWide_struct Try.underlying24 h
 have:cs.toList=[a,b,c]:=hc
 rw[show cs=#[a,b,c] from by cases cs;simp_all]
end
section
open Go.ChangeShapes Go.WideShapes Go.ChangeAt Go.RowKit Go.ChangeMaps Go.Ab
def emE(a:Addr)(c:Nat):Env:=fun i=>if i=1 then some ⟨a.block,c*7,7,a.off⟩ else none
def emH(T:TypeId):AH where
 obj i:=if i=1 then some { cells:=[],sz:=7,ty:=T,ro:=true,kind:=.row } else none
 next:=2
 lt:=by
  intro id o h
  split at h
  ·omega
  ·cases h
theorem em_rel{W:World}{a:Addr}{c:Nat}{arr:Array Value}{T:TypeId}{fz:Nat×Nat}(hb:W.heap[a.block]?=some (.cells arr T fz)):Rel (emE a c) (emH T) W:=by
 refine⟨fun id o h=>?_,fun i j oi oj _ _ hi hj _ _ _=>?_,fun id hid=>?_⟩
 ·simp only[emH]at h
  split at h
  ·rename_i e
   cases h
   subst e
   exact⟨_,rfl,⟨arr,fz,hb,(fun hro=>by cases hro),Nat.zero_le _,rfl,fun i c hi=>by simp at hi⟩⟩
  ·cases h
 ·simp only[emH]at hi hj
  split at hi
  ·split at hj
   ·cases hi;cases hj;exact .inr ⟨rfl,rfl⟩
   ·cases hj
  ·cases hi
 ·have hid:2<=id:=hid
  simp only[emE]
  rw[zW (by omega)]
def HasS(W:World)(v:Value):Prop:=v=.slice none 0 0\/∃a len cap,v=.slice (some a) len cap/\cap<=maxLen/\a.spot=none/\∃arr T fz,W.heap[a.block]?=some (.cells arr T fz)
theorem ops_qcnt{W:World}{v:Value}{l:List (COp×Value)}(hin:OpsIn W v l):∀y∈tabL l,y.1.qubits.length<=9223372036854775807:=by
 intro y hy
 have:y.1∈l.map (·.1):=by rw[<-tabL_fst];exact List.mem_map_of_mem hy
 obtain⟨z,hz,e⟩:=List.mem_map.1 this
 rw[<-e]
 have:=maxLen_le
 rcases(hin.1 z hz).1 with⟨_,_,_,h⟩ |⟨b,o,cap,hv,h1,h2,_,_⟩
 ·rw[h];simp
 ·omega
theorem undone_any{W:World}{q b:Int}{v:Value}{l:List (COp×Value)}(hin:OpsIn W v l)(hh:HasS W v):Calls Try.prog 5 #[.agg #[.int .i64 q,.int .i64 b,v]] W fun e w'=>e=.returned (.bool true)/\Below W.heap.size W w':=by
 by_cases h0:l.length=0
 ·have hl:l=[]:=List.length_eq_zero_iff.1 h0
  subst hl
  rcases hh with rfl |⟨a,len,cap,rfl,hc,hsp,arr,T,fz,hb⟩
  ·exact any_of hin (law_undone (in_ops hin) (.inl rfl) (by simp[tabL]) (ops_qcnt hin) (ops_mok hin) fun _=>rfl)
  ·have hlen:len=0:=by
    rcases hin.2 with⟨_,_,hv,_⟩ |⟨_,_,_,_,_,_,h,_⟩
    ·cases hv;rfl
    ·exact absurd rfl h
   subst hlen
   obtain⟨ab,ao,asp⟩:=a
   simp only at hsp hb
   subst hsp
   have hx:OpsL (emH T) (.sl 1 0 0) []:=⟨.inr (.inr ⟨1,[],true,T,rfl,(fun h=>by cases h),rfl⟩),fun _ h=>by cases h⟩
   have hv:VR (emE ⟨ab,ao,none⟩ cap) (.sl 1 0 0) (.slice (some ⟨ab,ao,none⟩) 0 cap):=.sl (B:=⟨ab,cap*7,7,ao⟩) rfl (.inl rfl) (by simp) (Nat.zero_le _) hc
   have hcall:ACalls Try.prog 5 [.agg [I q,I b,.sl 1 0 0]] (emH T) (fun _=>False) (fun ae _=>ae=.ret (B true)):=
    law_undone hx (.inr ⟨1,rfl⟩) (by simp) (fun _ h=>by cases h) (fun _ h=>by cases h) fun _=>rfl
   refine(hcall _ W [.agg #[.int .i64 q,.int .i64 b,.slice (some ⟨ab,ao,none⟩) 0 cap]] (em_rel hb) (.cons (.agg (vs:=[.int .i64 q,.int .i64 b,.slice (some ⟨ab,ao,none⟩) 0 cap]) (.cons (.sc _) (.cons (.sc _) (.cons hv .nil)))) .nil)).mono ?_
   rintro e w' ⟨E',h',ae,hst,he,rfl⟩
   refine⟨?_,hst.below⟩
   cases e<;>first |exact he.elim |skip
   cases he
   rfl
 ·have hsh:slShape (tabAV v l) (tabL l).length:=.inr ⟨1,by unfold tabAV;rw[zW h0,tabL_len]⟩
  exact any_of hin (law_undone (in_ops hin) hsh (ops_cnt hin) (ops_qcnt hin) (ops_mok hin) fun _=>rfl)
theorem params5:Try.f5.params=#[24]:=by kernel_rfl
theorem cts24:Try.prog.cellTypes Try.prog.depth 24=some [3,3,22]:=by kernel_rfl
theorem cir_has{W:World}{base:Nat}{a b c:Value}(h:Value.okWide Try.prog W .any base 24 (.agg #[a,b,c])):HasS W c:=by
 simp only[Value.okWide,Try.underlying24]at h
 obtain⟨cs,e,_,ts,hts,_,hcell⟩:=h
 cases e
 rw[cts24]at hts
 cases hts
 obtain⟨u,hu,hc⟩:=hcell 2 c rfl
 simp at hu
 subst hu
 simp only[Cell.okWide,Try.underlying22,Cell.ok]at hc
 revert hc
 cases c with
 |slice a len cap=>
  cases a with
  |none=>
   cases len with
   |zero=>cases cap with
    |zero=>exact fun _=>.inl rfl
    |succ n=>exact fun h=>h.elim
   |succ n=>exact fun h=>h.elim
  |some a=>
   rintro⟨h1,h2,_,h3,row,cells,h4,_⟩
   refine .inr ⟨a,len,cap,rfl,?_,h3,?_⟩
   ·have h2:(cap:Int)<=9223372036854775807:=h2
    show cap<=2^63-1
    omega
   ·unfold World.shape? at h4
    split at h4
    ·rename_i arr T fz hb;exact⟨_,_,_,hb⟩
    ·cases h4
 |_=>exact fun h=>h.elim
theorem undone_lifted(os:Os)(started:os.Started)(H:Type)(enc:TypeId×Value->H) :
  ReturnsInHanded {} Try.checked os 5 .any (Rows.optUndoneSpec.pre6 enc Try.prog Try.f5 Rows.optUndoneRow.domain false) (Rows.optUndoneSpec.post enc Try.prog Try.f5 false true false false):=by
 refine returnsInHanded_of_change (C:=Try.checked) Try.own started (by kernel_rfl) Try.func5
  (ChangeSpec.witness6 (enc:=enc) (C:=Try.checked) false ⟨#[],#[.agg #[.int .i64 0,.int .i64 0,.slice none 0 0]],[]⟩ 8 (by kernel_rfl) (by kernel_rfl) (by kernel_rfl) (by kernel_rfl)) ?_
 intro W base args ds gs before hval0 hW hcnd _
 have hval:∀(j:Nat) t v,Try.f5.params[j]?=some t->args[j]?=some v->Value.okWide Try.prog W .any base t v:=hval0
 have hW':=hW
 obtain⟨p,q,hA0,hV,rfl,hfz,hnd⟩:=hW
 have hA:DataW.TrodAll enc Try.prog W 0 (fun _=>true) true Try.f5.params.toList args.toList ds p:=hA0
 rw[params5]at hA hval
 obtain⟨v0,d0,rfl,rfl,h0⟩:=trodAll_one hA
 obtain⟨rfl,rfl⟩:=trodVars_none hV
 clear hA0 hval0
 simp only[List.append_nil]at hW'
 have h00:=h0
 obtain⟨fuel,hf⟩:=h0
 obtain⟨q,b,v1,l,hc,hin⟩:=cir_open hf
 have hvk:=hval 0 24 v0 rfl rfl
 have hv:=cir_own hvk hc
 subst hv
 refine(undone_any hin (cir_has hvk)).mono fun e W' ⟨he,hbl⟩=>?_
 subst he
 have hsame:∀x∈p,W.sameAt W' x:=fun x hx=>below_same hbl (hW'.lt x hx)
 exact⟨_,rfl,post_of_below (pa:=p) (pv:=[]) hW' (fun _ _ _=>trodAll_mk1 (shut_bool Try.underlying4 true)) (fun sp hsp=>trodAll_mk1 (WideElems.Trod_stays (P:=Try.prog) Try.laidOut (by kernel_rfl) (of_decide_eq_true (by kernel_rfl)) h00 hsame hsp)) (fun _ _=>rfl) (by simp) hbl (ok_one (by kernel_rfl) rfl (okWide_bool_mk Try.underlying4 true))⟩
theorem optundone_said:Rows.OptUndoneSaid:=
 OpenClaim.holds_of_wide 5 Try.f5 rfl rfl rfl rfl rfl rfl rfl ⟨rfl,rfl,rfl,rfl,rfl⟩ rfl rfl rfl rfl rfl (by kernel_rfl) Try.func5 (by kernel_rfl)
  (of_decide_eq_true (by kernel_rfl)) (by unfold Func.isWrapper;first |(rw[zX (by decide +kernel)];kernel_rfl) |(rw[zW (by decide +kernel)];exact⟨rfl,rfl⟩))
  (fun os started H enc _=>undone_lifted os started H enc)
end
end Go.Proofs.Ytbdibjgoeeokoaa
