/- FlatShows answers true for every circuit. No condition. -/
import Derived.Test.YtjehibknlmehmaaGreatDoorRows
import Derived.Deep.SlicePairs
import Derived.Lib.LaidTab
import Derived.ProofKit
import Derived.Below
import Derived.ChangeSame
import Derived.ChangeMaps5
import Derived.Test.YtjehibknlmehmaaGreatDoorCards
import Derived.Test.YtjehibknlmehmaaGreatDoorTie
import Derived.WalkKit
import Derived.OpenShut
import Derived.WideKeyArgs
import Derived.SevenTiedAt
import Derived.Stop.LaidErr
import Derived.Deep.DeepHandedRow
import Derived.Test.YtjehibknlmehmaaGreatDoorTb
set_option maxRecDepth 100000
namespace Go.Proofs.YtjehibknlmehmaaGreatDoor
section
open Go.Ab Go.Deep Go.ChangeShapes Go.WideShapes
instance:Inhabited bI:=⟨⟨0,⟨#[]⟩,[],0,false,0,0⟩⟩
def V6(E:Env)(W:World)(b o:Nat)(cs:List AV):Prop:=∃arr T fz,W.heap[b]?=some (.cells arr T fz)/\BH E o cs arr
theorem FP{W:World}{b o:Nat}{v:Value}(h:W.cell? ⟨b,o,none⟩=some v):∃arr T fz,W.heap[b]?=some (.cells arr T fz)/\arr[o]?=some v:=by
 unfold World.cell? at h
 split at h
 ·rename_i c T fz hc
  simp at h
  exact⟨c,T,fz,hc,h⟩
 ·cases h
theorem LN{α:Type}{E:Env}{W:World}{b o sz:Nat}{f:α->List AV}{l:List α}(hf:∀y,(f y).length=sz)(hs:0<sz)(hl:l≠[])
  (h:∀q y,l[q]?=some y->∀j,j<sz->∃v c,W.cell? ⟨b,o+(q*sz+j),none⟩=some v/\(f y)[j]?=some c/\VR E c v/\v.oneCell'=true):V6 E W b o (l.flatMap f):=by
 have wz:0<l.length:=List.length_pos_iff.2 hl
 obtain⟨v0,_,h0,_⟩:=h 0 l[0] (zJ wz) 0 hs
 obtain⟨arr,T,fz,hb,_⟩:=FP h0
 refine⟨arr,T,fz,hb,fun i c hi=>?_⟩
 have C9:i<l.length*sz:=by rw[<-fR hf l];exact(zM.1 hi).1
 have hq:i/sz<l.length:=Nat.div_lt_of_lt_mul (by rw[Nat.mul_comm];exact C9)
 have hj:i%sz<sz:=Nat.mod_lt _ hs
 have he:i/sz*sz+i%sz=i:=by rw[Nat.mul_comm];exact Nat.div_add_mod i sz
 obtain⟨v,c',h1,h2,h3,h4⟩:=h (i/sz) l[i/sz] (zJ hq) (i%sz) hj
 have hg:=gD hf l (i/sz) (i%sz) hj
 rw[he,zJ hq]at hg
 rw[hg]at hi
 simp only[Option.bind_some]at hi
 rw[h2]at hi
 cases hi
 obtain⟨pA,T',yE,jI,ha⟩:=FP h1
 rw[hb]at jI;cases jI
 rw[he]at ha
 exact⟨v,ha,h3,h4⟩
section
variable {H:Type} {enc:TypeId×Value->H} {W:World}
def BE(W:World)(v:Value)(l:List Int):Prop:=
 (∃a c,v=.slice a 0 c/\l=[])\/∃b o cap,v=.slice (some ⟨b,o,none⟩) l.length cap/\l.length<=cap/\cap<=maxLen/\l≠[]/\∀E,V6 E W b o (l.flatMap di)
theorem KH{kf:Nat}{cs:List Value}{x:DataW H×List MemPlace}(h:DataW.trod enc Tryz.prog W 0 (fun _=>true) true kf 35 cs=some x) :
  ∃v l,cs=[v]/\BE W v l/\(∃a len cap,v=.slice a len cap):=by
 rcases open_slice Tryz.underlying35 h with⟨rfl,rfl⟩ |⟨a,len,cap,m,n,D,Pl,rfl,hb,hl,hm,wB,rfl,hx⟩
 ·exact⟨_,[],rfl,.inl ⟨none,0,rfl,rfl⟩,⟨_,_,_,rfl⟩⟩
 ·simp only[zV]at wB
  subst wB
  rw[show Tryz.prog.cellsOf 3=1 by kernel_rfl]at hx
  have each:∀i,i<len->∃z:Int,W.cell? (a.add (i*1))=some (.int .i64 z):=by
   intro i hi
   obtain⟨wV,h1,h2⟩:=hx i (by omega)
   obtain⟨_,hlen,uE⟩:=World.cells?_some h1
   obtain⟨z,rfl,_,_⟩:=DataW.trod_int Tryz.underlying3 h2
   have:=uE 0 (by omega)
   rw[show(a.add (i*1)).add 0=a.add (i*1) by simp[Addr.add]]at this
   exact⟨z,by rw[this];rfl⟩
  obtain⟨g,hg⟩:=choose_lt (α:=Int) each
  refine⟨_,(List.range len).map g,rfl,?_,⟨_,_,_,rfl⟩⟩
  by_cases h0:len=0
  ·subst h0
   exact .inl ⟨_,_,rfl,rfl⟩
  ·right
   obtain⟨b,o,spot⟩:=a
   have c0:=hg 0 (by omega)
   have IM:spot=none:=by simpa[Addr.add] using World.cell?_spot c0
   subst IM
   refine⟨b,o,m,by rw[zZ,List.length_range],by rw[zZ,List.length_range];exact hl,hm,fun e=>h0 (by have:=congrArg List.length e;simpa using this),fun E=>?_⟩
   refine LN (sz:=1) fT (by omega) (fun e=>h0 (by have:=congrArg List.length e;simpa using this)) fun q y hq j hj=>?_
   rw[List.getElem?_map]at hq
   obtain⟨q',jG,rfl⟩:=Option.map_eq_some_iff.1 hq
   have ln:q<len:=by have:=(zM.1 jG).1;simpa using this
   have Uf:q'=q:=by rw[List.getElem?_range ln]at jG;exact(Option.some.inj jG).symm
   subst Uf
   have a0:=hg q' ln
   rw[add_plain]at a0
   match j,hj with
   |0,_=>exact⟨_,_,by rw[Nat.add_zero];exact a0,rfl,.sc _,rfl⟩
def sZ(y:bI×Value):List Value:=[.int .i64 y.1.kind,.string y.1.name,y.2,.int .i64 y.1.bit,.bool y.1.cond,.int .u64 y.1.cT,.int .u64 y.1.value]
def ri(W:World)(v:Value)(l:List (bI×Value)):Prop:=
 (∀y∈l,BE W y.2 y.1.az/\(∃a len cap,y.2=.slice a len cap)/\xg y.1) /\
 ((∃a c,v=.slice a 0 c/\l=[])\/∃b o cap,v=.slice (some ⟨b,o,none⟩) l.length cap/\l.length<=cap/\cap<=maxLen/\l≠[]/\∀q y,l[q]?=some y->∀j v,(sZ y)[j]?=some v->W.cell? ⟨b,o+(q*7+j),none⟩=some v)
theorem Rl{kf:Nat}{cs:List Value}{x:DataW H×List MemPlace}(h:DataW.trod enc Tryz.prog W 0 (fun _=>true) true kf 38 cs=some x) :
  ∃y:bI×Value,cs=sZ y/\BE W y.2 y.1.az/\(∃a len cap,y.2=.slice a len cap)/\xg y.1:=by
 obtain⟨xs,n,_,rfl,hl,Pv,hf⟩:=DataW.trod_struct Tryz.underlying38 h
 rw[show Tryz.prog.cellsOf 38=7 by kernel_rfl]at hl
 match cs,hl,xs,Pv with
 |[c0,c1,c2,c3,c4,c5,c6],_,[y0,y1,y2,y3,y4,y5,y6],_=>
  have t0:=hf 0 _ rfl
  have t1:=hf 1 _ rfl
  have t2:=hf 2 _ rfl
  have t3:=hf 3 _ rfl
  have t4:=hf 4 _ rfl
  have t5:=hf 5 _ rfl
  have t6:=hf 6 _ rfl
  have k9:Tryz.prog.cellsOf 9=1:=by kernel_rfl
  have yf:Tryz.prog.cellsOf 35=1:=by kernel_rfl
  have k3:Tryz.prog.cellsOf 3=1:=by kernel_rfl
  have k4:Tryz.prog.cellsOf 4=1:=by kernel_rfl
  have tK:Tryz.prog.cellsOf 36=1:=by kernel_rfl
  simp[k9,yf,k3,k4,tK]at t0 t1 t2 t3 t4 t5 t6
  obtain⟨z0,h0,_,_⟩:=DataW.trod_int Tryz.underlying3 t0
  obtain⟨s1,h1,_,_⟩:=DataW.trod_string Tryz.underlying9 t1
  obtain⟨v,l,h2,ha,hs⟩:=KH t2
  obtain⟨z3,h3,_,_⟩:=DataW.trod_int Tryz.underlying3 t3
  obtain⟨b4,h4,_⟩:=DataW.trod_bool Tryz.underlying4 t4
  obtain⟨z5,h5,_,w5⟩:=DataW.trod_int Tryz.underlying36 t5
  obtain⟨z6,h6,_,w6⟩:=DataW.trod_int Tryz.underlying36 t6
  simp at h0 h1 h2 h3 h4 h5 h6
  subst h0 h1 h2 h3 h4 h5 h6
  refine⟨(⟨z0,s1,l,z3,b4,z5,z6⟩,c2),rfl,ha,hs,?_⟩
  simp[Lit.wf]at w5 w6
  have Hh:IntKind.u64.max=18446744073709551615:=by decide
  have hmn:IntKind.u64.min=0:=by decide
  unfold xg
  simp only
  omega
theorem MK{kf:Nat}{cs:List Value}{x:DataW H×List MemPlace}(h:DataW.trod enc Tryz.prog W 0 (fun _=>true) true kf 22 cs=some x) :
  ∃v l,cs=[v]/\ri W v l:=by
 rcases open_slice Tryz.underlying22 h with⟨rfl,rfl⟩ |⟨a,len,cap,m,n,D,Pl,rfl,hb,hl,hm,wB,rfl,hx⟩
 ·exact⟨_,[],rfl,⟨by simp,.inl ⟨none,0,rfl,rfl⟩⟩⟩
 ·simp only[zV]at wB
  subst wB
  rw[show Tryz.prog.cellsOf 38=7 by kernel_rfl]at hx
  have each:∀i,i<len->∃y:bI×Value,(∀j v,(sZ y)[j]?=some v->W.cell? ((a.add (i*7)).add j)=some v)/\BE W y.2 y.1.az/\(∃a len cap,y.2=.slice a len cap)/\xg y.1:=by
   intro i hi
   obtain⟨wV,h1,h2⟩:=hx i (by omega)
   obtain⟨_,hlen,uE⟩:=World.cells?_some h1
   obtain⟨y,rfl,h3,h4,h5⟩:=Rl h2
   refine⟨y,fun j v hj=>?_,h3,h4,h5⟩
   have:j<7:=by have:=(zM.1 hj).1;simpa[sZ] using this
   rw[uE j this,hj]
  obtain⟨g,hg⟩:=choose_lt (α:=bI×Value) each
  refine⟨_,(List.range len).map g,rfl,⟨fun y hy=>?_,?_⟩⟩
  ·obtain⟨i,hi,rfl⟩:=List.mem_map.1 hy
   exact(hg i (List.mem_range.1 hi)).2
  by_cases h0:len=0
  ·subst h0
   exact .inl ⟨_,_,rfl,rfl⟩
  ·right
   obtain⟨b,o,spot⟩:=a
   have c0:=(hg 0 (by omega)).1 0 _ rfl
   have IM:spot=none:=by simpa[Addr.add] using World.cell?_spot c0
   subst IM
   refine⟨b,o,m,by rw[zZ,List.length_range],by rw[zZ,List.length_range];exact hl,hm,fun e=>h0 (by have:=congrArg List.length e;simpa using this),fun q y hq j v hj=>?_⟩
   rw[List.getElem?_map]at hq
   obtain⟨q',jG,rfl⟩:=Option.map_eq_some_iff.1 hq
   have ln:q<len:=by have:=(zM.1 jG).1;simpa using this
   have Uf:q'=q:=by rw[List.getElem?_range ln]at jG;exact(Option.some.inj jG).symm
   subst Uf
   have:=(hg q' ln).1 j v hj
   rw[add_add,add_plain]at this
   exact this
theorem NP{kf:Nat}{cs:List Value}{x:DataW H×List MemPlace}(h:DataW.trod enc Tryz.prog W 0 (fun _=>true) true kf 24 cs=some x) :
  ∃q b v l,cs=[.int .i64 q,.int .i64 b,v]/\ri W v l:=by
 obtain⟨xs,n,_,rfl,hl,Pv,hf⟩:=DataW.trod_struct Tryz.underlying24 h
 rw[show Tryz.prog.cellsOf 24=3 by kernel_rfl]at hl
 match cs,hl,xs,Pv with
 |[c0,c1,c2],_,[y0,y1,y2],_=>
  have t0:=hf 0 _ rfl
  have t1:=hf 1 _ rfl
  have t2:=hf 2 _ rfl
  have mQ:Tryz.prog.cellsOf 22=1:=by kernel_rfl
  have k3:Tryz.prog.cellsOf 3=1:=by kernel_rfl
  simp[mQ,k3]at t0 t1 t2
  obtain⟨z0,h0,_,_⟩:=DataW.trod_int Tryz.underlying3 t0
  obtain⟨z1,h1,_,_⟩:=DataW.trod_int Tryz.underlying3 t1
  obtain⟨v,l,h2,ho⟩:=MK t2
  simp at h0 h1 h2
  subst h0 h1 h2
  exact⟨z0,z1,c2,l,rfl,ho⟩
end
end
section
open Go.Ab Go.Deep
def yP(W:World)(b:Nat):TypeId:=match W.heap[b]? with |some (.cells _ T _)=>T |_=>0
theorem GW{W:World}{b:Nat}{arr:Array Value}{T:TypeId}{fz:Nat×Nat}(h:W.heap[b]?=some (.cells arr T fz)):yP W b=T:=by unfold yP;rw[h]
def kw(v:Value)(sz:Nat):oO:=match v with |.slice (some a) _ cap=>⟨a.block,cap*sz,sz,a.off⟩ |_=>⟨0,0,0,0⟩
def Ej(i:Nat)(y:bI×Value):AV:=if y.1.az.length=0 then .sc y.2 else .sl (i+2) 0 y.1.az.length
def ou(l:List (bI×Value)):List (bI×AV):=l.mapIdx fun i y=>(y.1,Ej i y)
def Ao(v:Value)(l:List (bI×Value)):AV:=if l.length=0 then .sc v else .sl 1 0 l.length
def xA(W:World)(v:Value)(sz:Nat)(cells:List AV):AO:={ cells:=cells,sz:=sz,ty:=yP W (kw v sz).b,ro:=true,kind:=.row }
def xJ(W:World)(v:Value)(l:List (bI×Value))(ty:TypeId)(fz:Nat×Nat):Nat->Option AO
 |0=>some (MM 0 (rD ty fz))
 |1=>if l.length=0 then none else some (xA W v 7 ((ou l).flatMap b8))
 |i+2=>(l[i]?).bind fun y=>if y.1.az.length=0 then none else some (xA W y.2 1 (y.1.az.flatMap di))
def CY(v:Value)(l:List (bI×Value)):Env
 |0=>some ⟨0,0,0,0⟩
 |1=>some (kw v 7)
 |i+2=>(l[i]?).map fun y=>kw y.2 1
def IK(W:World)(v:Value)(l:List (bI×Value))(ty:TypeId)(fz:Nat×Nat):AH where
 obj:=xJ W v l ty fz
 next:=l.length+2
 lt:=by
  intro id o h
  match id with
  |0=>omega
  |1=>omega
  |i+2=>
   simp only[xJ]at h
   obtain⟨y,hy,_⟩:=Option.bind_eq_some_iff.1 h
   have:=(zM.1 hy).1
   omega
theorem Mj(l:List (bI×Value)):(ou l).map (·.1)=l.map (·.1):=by
 unfold ou
 apply List.ext_getElem?
 intro i
 simp
 cases l[i]?<;>rfl
theorem yS{l:List (bI×Value)}{i:Nat}:(ou l)[i]?=(l[i]?).map fun y=>(y.1,Ej i y):=by
 unfold ou;simp
theorem yR(l:List (bI×Value)):(ou l).length=l.length:=by unfold ou;simp
section
variable {W:World} {v:Value} {l:List (bI×Value)} {ty:TypeId} {fz:Nat×Nat}
theorem S9(fe:ri W v l){i:Nat}{y:bI×Value}(hy:l[i]?=some y):VR (CY v l) (Ej i y) y.2:=by
 unfold Ej
 split
 ·exact .sc _
 ·rename_i cC
  rcases(fe.1 y (zP hy)).1 with⟨_,_,_,h⟩ |⟨b,o,cap,hv,h1,h2,_,_⟩
  ·exact absurd (by rw[h];rfl) cC
  ·rw[hv]
   exact .sl (B:=⟨b,cap*1,1,o⟩) (by simp only[CY,hy,yB,kw,hv]) (.inl rfl) (by simp) h1 h2
theorem Mk(fe:ri W v l):VR (CY v l) (Ao v l) v:=by
 unfold Ao
 split
 ·exact .sc _
 ·rename_i cC
  rcases fe.2 with⟨_,_,_,h⟩ |⟨b,o,cap,hv,h1,h2,_,_⟩
  ·exact absurd (by rw[h];rfl) cC
  ·rw[hv]
   exact .sl (B:=⟨b,cap*7,7,o⟩) rfl (.inl rfl) (by simp) h1 h2
theorem TU(fe:ri W v l)(ht:W.heap[0]?=some (rD ty fz)):Rel (CY v l) (IK W v l ty fz) W:=by
 have JW:∀id o,xJ W v l ty fz id=some o->o.ro=true:=by
  intro id o h
  match id with
  |0=>simp only[xJ,zQ]at h;rw[<-h];rfl
  |1=>
   simp only[xJ]at h
   split at h
   ·cases h
   ·simp only[zQ]at h;rw[<-h];rfl
  |i+2=>
   simp only[xJ]at h
   obtain⟨y,hy,h2⟩:=Option.bind_eq_some_iff.1 h
   split at h2
   ·cases h2
   ·simp only[zQ]at h2;rw[<-h2];rfl
 refine⟨fun id o h=>?_,fun i j oi oj _ _ hi hj _ _ _=>.inr ⟨JW i oi hi,JW j oj hj⟩,fun id hid=>?_⟩
 ·match id with
  |0=>
   have h:some (MM 0 (rD ty fz))=some o:=h
   cases h
   exact⟨_,rfl,rfl,ht⟩
  |1=>
   have h:(if l.length=0 then none else some (xA W v 7 ((ou l).flatMap b8)))=some o:=h
   split at h
   ·cases h
   ·rename_i cC
    cases h
    rcases fe.2 with⟨_,_,_,h⟩ |⟨b,o,cap,hv,h1,h2,h3,h4⟩
    ·exact absurd (by rw[h];rfl) cC
    ·have Ba:V6 (CY v l) W b o ((ou l).flatMap b8):=by
      refine LN (sz:=7) hG (by omega) (fun e=>h3 (List.length_eq_zero_iff.1 (by have:=congrArg List.length e;rw[yR]at this;exact this))) fun q y hq j hj=>?_
      rw[yS]at hq
      obtain⟨y',sJ,rfl⟩:=Option.map_eq_some_iff.1 hq
      have hc:=h4 q y' sJ j
      match j,hj with
      |0,_=>exact⟨_,_,hc _ rfl,rfl,.sc _,rfl⟩
      |1,_=>exact⟨_,_,hc _ rfl,rfl,.sc _,rfl⟩
      |2,_=>
       refine⟨_,_,hc _ rfl,rfl,S9 fe sJ,?_⟩
       obtain⟨a,len,cap,hs⟩:=(fe.1 y' (zP sJ)).2.1
       rw[hs];rfl
      |3,_=>exact⟨_,_,hc _ rfl,rfl,.sc _,rfl⟩
      |4,_=>exact⟨_,_,hc _ rfl,rfl,.sc _,rfl⟩
      |5,_=>exact⟨_,_,hc _ rfl,rfl,.sc _,rfl⟩
      |6,_=>exact⟨_,_,hc _ rfl,rfl,.sc _,rfl⟩
     obtain⟨arr,T,yE,hb,dK⟩:=Ba
     have lN:kw v 7=⟨b,cap*7,7,o⟩:=by rw[hv];rfl
     refine⟨kw v 7,rfl,⟨arr,yE,?_,(fun fH=>by cases fH),?_,by rw[lN];rfl,by rw[lN];exact dK⟩⟩
     ·show W.heap[(kw v 7).b]?=some (.cells arr (yP W (kw v 7).b) yE)
      rw[lN,GW hb];exact hb
     ·show((ou l).flatMap b8).length<=(kw v 7).n
      rw[lN,fR hG,yR]
      exact Nat.mul_le_mul_right _ h1
  |i+2=>
   have h:((l[i]?).bind fun y=>if y.1.az.length=0 then none else some (xA W y.2 1 (y.1.az.flatMap di)))=some o:=h
   obtain⟨y,hy,h2⟩:=Option.bind_eq_some_iff.1 h
   split at h2
   ·cases h2
   ·rename_i cC
    cases h2
    rcases(fe.1 y (zP hy)).1 with⟨_,_,_,h⟩ |⟨b,o,cap,hv,h1,h2,h3,h4⟩
    ·exact absurd (by rw[h];rfl) cC
    ·obtain⟨arr,T,yE,hb,dK⟩:=h4 (CY v l)
     have lN:kw y.2 1=⟨b,cap*1,1,o⟩:=by rw[hv];rfl
     refine⟨kw y.2 1,by simp only[CY,hy,yB],⟨arr,yE,?_,(fun fH=>by cases fH),?_,by rw[lN];rfl,by rw[lN];exact dK⟩⟩
     ·show W.heap[(kw y.2 1).b]?=some (.cells arr (yP W (kw y.2 1).b) yE)
      rw[lN,GW hb];exact hb
     ·show(y.1.az.flatMap di).length<=(kw y.2 1).n
      rw[lN,fR fT]
      exact Nat.mul_le_mul_right _ h1
 ·match id,hid with
  |i+2,hid=>
   have:l.length<=i:=by have hh:l.length+2<=i+2:=hid;omega
   simp only[CY,List.getElem?_eq_none this,Option.map_none]
theorem TV(fe:ri W v l):kN (IK W v l ty fz) (Ao v l) (ou l):=by
 refine⟨?_,fun y hy=>?_⟩
 ·by_cases h0:l.length=0
  ·have:l=[]:=List.length_eq_zero_iff.1 h0
   subst this
   rcases fe.2 with⟨a,c,hv,_⟩ |⟨_,_,_,_,_,_,h,_⟩
   ·exact .inr (.inl ⟨a,c,by rw[hv];rfl,rfl⟩)
   ·exact absurd rfl h
  ·refine .inr (.inr ⟨1,[],true,yP W (kw v 7).b,?_,fun h=>(by cases h),?_⟩)
   ·unfold Ao;rw[zW h0,yR]
   ·show(if l.length=0 then none else some (xA W v 7 ((ou l).flatMap b8)))=_
    rw[zW h0,List.append_nil];rfl
 ·obtain⟨i,hi⟩:=List.mem_iff_getElem?.1 hy
  rw[yS]at hi
  obtain⟨y',sJ,rfl⟩:=Option.map_eq_some_iff.1 hi
  show cf di 1 3 _ (Ej i y') y'.1.az
  by_cases h0:y'.1.az.length=0
  ·have he:y'.1.az=[]:=List.length_eq_zero_iff.1 h0
   unfold Ej
   rw[zX h0,he]
   rcases(fe.1 y' (zP sJ)).1 with⟨a,c,hv,_⟩ |⟨_,_,_,_,_,_,h,_⟩
   ·exact .inr (.inl ⟨a,c,by rw[hv],rfl⟩)
   ·exact absurd he h
  ·refine .inr (.inr ⟨i+2,[],true,yP W (kw y'.2 1).b,?_,fun h=>(by cases h),?_⟩)
   ·unfold Ej;rw[zW h0]
   ·show((l[i]?).bind fun y=>if y.1.az.length=0 then none else some (xA W y.2 1 (y.1.az.flatMap di)))=_
    rw[sJ,Option.bind_some,zW h0,List.append_nil];rfl
theorem TS:cp 0 (IK W v l ty fz):=⟨ty,fz,rfl⟩
end
end
end Go.Proofs.YtjehibknlmehmaaGreatDoor
namespace Go.Ab
open Go.RowKit
def AH.empty:AH:=⟨fun _=>none,0,fun _ _ h=>by cases h⟩
theorem Rel.empty(w:World):Rel (fun _=>none) AH.empty w:=⟨fun _ _ h=>(by cases h),fun _ _ _ _ _ _ h=>(by cases h),fun _ _=>rfl⟩
theorem Step.below{E E':Env}{h h':AH}{w w':World}(s:Step E h (fun _=>False) w E' h' w'):Below w.heap.size w w':=⟨s.os,s.tape,s.output,s.size,fun b hb=>s.frame b hb fun _ _ _ hm=>hm.elim⟩
end Go.Ab
namespace Go.Proofs.YtjehibknlmehmaaGreatDoor
section
open Go.ChangeShapes Go.WideShapes Go.ChangeAt Go.RowKit Go.ChangeMaps
section
variable {H:Type} {enc:TypeId×Value->H} {P:Program}
theorem DI{f:Func}{s:ChangeSpec}{apart fresh handsOn again:Bool}{W W':World}{args:Array Value}{v:Value}{ds gs:List (DataW H)}{before pa pv:List MemPlace}
  (hW:DataW.Whole enc P f.params.toList s.vars apart W args.toList ds gs before)
  (rR:∀(b:Nat)(sp:Nat->Bool)(hd:Bool),DataW.TrodAll enc P W' b sp hd f.resultTypes.toList (v.resultList f.resultTypes.size) (s.fn H (ds++gs)).results [])
  (pK:∀sp:Nat->Bool,(∀p∈before,sp p.block=true)->DataW.TrodAll enc P W' 0 sp true f.params.toList args.toList (s.fn H (ds++gs)).args pa)
  (Py:∀sp:Nat->Bool,(∀p∈before,sp p.block=true)->DataW.TrodVars enc P W' sp s.vars (s.fn H (ds++gs)).vars pv)
  (A0:before=pa++pv) (hb:Below W.heap.size W W')
  (cS:∀(j:Nat)(t:TypeId)(r:Value),f.resultTypes[j]?=some t->(v.resultList f.resultTypes.size)[j]?=some r->Value.okWide P W' .any 0 t r) :
  s.post enc P f apart fresh handsOn again W args v W':=by
 have aM:∀p∈before,p.block<W.heap.size:=fun p hp=>hW.lt p hp
 have hold:∀p∈before,(fun b=>decide (b<W.heap.size)) p.block=true:=fun p hp=>by simpa using aM p hp
 refine⟨ds,gs,before,[],pa,pv,hW,rR _ _ _,pK _ hold,Py _ hold,World.keptBut_mono (fun p hp=>⟨hp,?_⟩) (hb.frame (·∈before)),fun _=>?_⟩
 ·rw[A0,List.mem_append]at hp
  exact Or.inr hp
 ·obtain⟨_,_,_,_,_,hz,hn⟩:=hW
  refine⟨cS,_,_,([]++pa)++pv,⟨[]++pa,pv,trodAll_append (pK _ (fun _ _=>rfl)) (rR _ _ _),Py _ (fun _ _=>rfl),rfl,?_,?_⟩,?_⟩
  ·intro b off hp
   have fe:MemPlace.cell b off∈before:=by rw[A0];simpa using hp
   rw[hb.frozen (aM _ fe)]
   exact hz b off fe
  ·intro ha
   have:=hn ha
   rw[A0]at this
   simpa using this
  ·intro p hp _
   rw[A0]
   simpa using hp
end
theorem Tryz.own:ownKnob Tryz.prog.godebug=none:=by kernel_rfl
theorem Tryz.laidOut:laidOutB Tryz.prog=true:=by kernel_rfl
end
section
open Go.ChangeShapes Go.WideShapes Go.ChangeAt Go.RowKit Go.ChangeMaps Go.Ab
theorem U2 : Tryz.prog.globalNamed "internal/strconv.uint64pow10" = some 0 := by kernel_rfl
theorem Nx:(Tryz.prog.globals[0]?).map (·.type)=some 178:=by kernel_rfl
theorem Q2{H:Type}:(Rows.laid_internal_strconv_uint64pow10:DataW H)=Lib.tabData .u64 Lib.pow10Tab:=by kernel_rfl
theorem J2{W:World}(h:laidMetH Tryz.prog Rows.flatShowsRow.laid W):∃ty fz,W.heap[0]?=some (rD ty fz):=by
 have h1:laidMet Tryz.prog Rows.flatShowsRow.laid W:=h
 have h2 : laidMet Tryz.prog [("internal/strconv.uint64pow10", Rows.laid_internal_strconv_uint64pow10)] W := laidMet.tail (laidMet.tail h1)
 rw[Q2]at h2
 have h3:=Lib.tabIs_of_head U2 Nx Tryz.underlying178 Tryz.underlying36 (by kernel_rfl) (by kernel_rfl) h2
 unfold Lib.TabIs World.var? at h3
 rw[U2,Option.bind_some]at h3
 split at h3
 ·rename_i cs T fz hc
  cases h3
  exact⟨T,fz,hc⟩
 ·cases h3
theorem Rk{W:World}{v:Value}{l:List (bI×Value)}(fe:ri W v l):∀y∈ou l,y.1.az.length<=9223372036854775807:=by
 intro y hy
 obtain⟨i,hi⟩:=List.mem_iff_getElem?.1 hy
 rw[yS]at hi
 obtain⟨y',sJ,rfl⟩:=Option.map_eq_some_iff.1 hi
 have hm:(maxLen:Nat)<=9223372036854775807:=by decide
 rcases(fe.1 y' (zP sJ)).1 with⟨_,_,_,h⟩ |⟨b,o,cap,hv,h1,h2,_,_⟩
 ·show y'.1.az.length<=_
  rw[h];simp
 ·show y'.1.az.length<=_
  omega
theorem Rj{W:World}{v:Value}{l:List (bI×Value)}(fe:ri W v l):∀o∈(ou l).map (·.1),xg o:=by
 intro o ho
 rw[Mj]at ho
 obtain⟨y,hy,rfl⟩:=List.mem_map.1 ho
 exact(fe.1 y hy).2.2
theorem JM{W:World}{q b:Int}{v:Value}{l:List (bI×Value)}{ty:TypeId}{fz:Nat×Nat}(fe:ri W v l)(ht:W.heap[0]?=some (rD ty fz)) :
  Calls Tryz.prog 3 #[.agg #[.int .i64 q,.int .i64 b,v]] W fun e w'=>e=.returned (.bool true)/\Below W.heap.size W w':=by
 have hc:ay Tryz.prog 3 [.agg [I q,I b,Ao v l]] (IK W v l ty fz) (fun _=>False) (fun ae _=>ae=.ret (B true)):=KD (TV fe) TS (Nat.succ_pos _) (Rk fe) (Rj fe) fun _ _=>rfl
 refine(hc _ W [.agg #[.int .i64 q,.int .i64 b,v]] (TU fe ht) (.cons (.agg (vs:=[.int .i64 q,.int .i64 b,v]) (.cons (.sc _) (.cons (.sc _) (.cons (Mk fe) .nil)))) .nil)).mono ?_
 rintro e w' ⟨E',h',ae,eM,he,rfl⟩
 refine⟨?_,eM.below⟩
 cases e<;>first |exact he.elim |skip
 cases he
 rfl
theorem Jb{W W':World}(hb:Below W.heap.size W W'){x:MemPlace}(hx:x.block<W.heap.size):W.sameAt W' x:=by
 cases x with
 |cell b off=>
  show W'.cell? ⟨b,off,none⟩=W.cell? ⟨b,off,none⟩
  unfold World.cell?
  rw[hb.block b hx]
 |map b=>exact hb.block b hx
theorem RV{W:World}{base:Nat}{v a b c:Value}(h:Value.okWide Tryz.prog W .any base 24 v)(hc:v.cells.toList=[a,b,c]):v=.agg #[a,b,c]:=by
 obtain⟨cs,rfl,_⟩:=okWide_struct Tryz.underlying24 h
 have:cs.toList=[a,b,c]:=hc
 rw[show cs=#[a,b,c] from by cases cs;simp_all]
theorem BM(H:Type)(enc:TypeId×Value->H)(W:World)(base:Nat)(args:Array Value)(ds gs:List (DataW H))(before:List MemPlace)
  (IL:∀(j:Nat) t v,Tryz.f3.params[j]?=some t->args[j]?=some v->Value.okWide Tryz.prog W .any base t v)
  (hW:DataW.Whole enc Tryz.prog Tryz.f3.params.toList Rows.flatShowsSpec.vars false W args.toList ds gs before) (hL:laidMetH Tryz.prog Rows.flatShowsRow.laid W) :
  Calls Tryz.prog 3 args W fun e W'=>∃v,e=.returned v/\Rows.flatShowsSpec.post enc Tryz.prog Tryz.f3 false true false false W args v W':=by
 have UN:=hW
 obtain⟨p,q,YE,hV,rfl,mT,hnd⟩:=hW
 have hA:DataW.TrodAll enc Tryz.prog W 0 (fun _=>true) true Tryz.f3.params.toList args.toList ds p:=YE
 rw[Tryz.params3]at hA IL
 obtain⟨v0,d0,rfl,rfl,h0⟩:=trodAll_one hA
 obtain⟨rfl,rfl⟩:=trodVars_none hV
 clear YE
 simp only[List.append_nil]at UN
 have oI:=h0
 obtain⟨kf,hf⟩:=h0
 obtain⟨q,b,v1,l,hc,fe⟩:=NP hf
 have hv:=RV (IL 0 24 v0 rfl rfl) hc
 subst hv
 obtain⟨ty,fz,hb⟩:=J2 hL
 refine(JM fe hb).mono fun e W' ⟨he,Hn⟩=>?_
 subst he
 have mK:∀x∈p,W.sameAt W' x:=fun x hx=>Jb Hn (UN.lt x hx)
 exact⟨_,rfl,DI (pa:=p) (pv:=[]) UN (fun _ _ _=>trodAll_mk1 (shut_bool Tryz.underlying4 true)) (fun sp C5=>trodAll_mk1 (WideElems.Trod_stays (P:=Tryz.prog) Tryz.laidOut (by kernel_rfl) (of_decide_eq_true (by kernel_rfl)) oI mK C5)) (fun _ _=>rfl) (by simp) Hn (ok_one (by kernel_rfl) rfl (okWide_bool_mk Tryz.underlying4 true))⟩
end
section
open Go.ChangeShapes Go.WideShapes Go.ChangeAt Go.RowKit Go.ChangeMaps Go.Ab
def Xu(l:List Int):Array Value:=(l.map fun z=>Value.int .u8 z).toArray
def V8:Array Value:=Xu [0,1,28,2,29,14,24,3,30,22,20,15,25,17,4,8,31,27,13,23,21,19,16,7,26,12,18,6,11,5,10,9]
def V7:Array Value:=Xu [0,1,56,2,57,49,28,3,61,58,42,50,38,29,17,4,62,47,59,36,45,43,51,22,53,39,33,30,24,18,12,5,63,55,48,27,60,41,37,16,46,35,44,21,52,32,23,11,54,26,40,15,34,20,31,10,25,14,19,9,13,8,7,6]
def Zz:Array Value:=(Lib.pow10Tab.map fun z=>Value.int .u64 z).toArray
def Iy(a:Array Value):Go.Obj->Go.Obj
 |.cells _ t frozen=>.cells a t frozen
 |o=>o
noncomputable def wj(os:Os):World:=
 { World.holding Tryz.prog os ⟨#[],#[],[]⟩ with heap:=(((World.holding Tryz.prog os ⟨#[],#[],[]⟩).heap.modify 0 (Iy Zz)).modify 2 (Iy V8)).modify 3 (Iy V7) }
theorem MW(os:Os):laidMet Tryz.prog Rows.flatShowsRow.laid ((wj os).forCall (fun _ _=>0) ⟨#[],#[.agg #[.int .i64 0,.int .i64 0,.slice none 0 0]],[]⟩).memory:=
 laidMet_of_run' 80 (by kernel_rfl) (by kernel_rfl)
theorem Gq(os:Os){H:Type}(enc:TypeId×Value->H):∃places,DataW.whole enc Tryz.prog ((wj os).forCall (fun _ _=>0) ⟨#[],#[.agg #[.int .i64 0,.int .i64 0,.slice none 0 0]],[]⟩).memory Tryz.f3.params.toList Rows.flatShowsSpec.vars false #[Value.agg #[.int .i64 0,.int .i64 0,.slice none 0 0]].toList 8=some ([.agg [.lit (.int .i64 0),.lit (.int .i64 0),.nil]],[],places):=
 ⟨[],by kernel_rfl⟩
theorem Ea(os:Os)(started:os.Started)(H:Type)(enc:TypeId×Value->H)(F:Stop.Interp) :
  ReturnsInHanded {} Tryz.checked os 3 .any ((OpenSpec.ofChange Rows.flatShowsSpec).preRow enc Tryz.prog Tryz.f3 Rows.flatShowsRow.domain false Rows.flatShowsRow.laid) (((OpenSpec.ofChange Rows.flatShowsSpec).at F).post enc Tryz.prog Tryz.f3 false true false false):=by
 obtain⟨places,hx⟩:=Gq os enc
 refine returnsInHanded_of_row (C:=Tryz.checked) (s:=OpenSpec.ofChange Rows.flatShowsSpec) Tryz.own started (by kernel_rfl) Tryz.func3
  (witness_row_at (enc:=enc) (C:=Tryz.checked) false (wj os) #[.agg #[.int .i64 0,.int .i64 0,.slice none 0 0]] rfl (by kernel_rfl) (by kernel_rfl) (by kernel_rfl)
   (OpenSpec.preRow_of_cond 8 hx (by kernel_rfl) (fun k hk=>by cases hk) (by kernel_rfl) (MW os))) ?_
 intro W base args ds gs before IL hW _ WD _ hL _ _
 exact BM H enc W base args ds gs before IL hW hL
theorem H_:Rows.FlatShowsSaid:=
 OpenClaim.holds_of_cond 3 Tryz.f3 rfl rfl rfl rfl rfl rfl rfl ⟨rfl,rfl,rfl,rfl,rfl⟩ rfl rfl rfl rfl rfl (by kernel_rfl) Tryz.func3 (by kernel_rfl)
  (of_decide_eq_true (by kernel_rfl)) (by unfold Func.isWrapper;first |(rw[zX (by decide +kernel)];kernel_rfl) |(rw[zW (by decide +kernel)];exact⟨rfl,rfl⟩))
  (fun os started H enc _ F=>by rw[OpenClaim.pre_eq_preRow];exact Ea os started H enc F)
theorem Gr (f : FuncId) (fn : Func) (hf : Tryz.pinned.checked.prog.funcNamed "cubit/cubitlaw12.FlatShows" = some f) (hfn : Tryz.pinned.checked.prog.funcs[f]? = some fn) :
  true=Tryz.pinned.checked.prog.looks []/\∀(j:Nat) t,fn.params[j]?=some t->Tryz.pinned.checked.prog.wantsStandIn t=false:=by
 obtain rfl : f = 3 := Option.some.inj ((show Tryz.prog.funcNamed "cubit/cubitlaw12.FlatShows" = some 3 by kernel_rfl).symm.trans hf) |>.symm
 obtain rfl:fn=Tryz.f3:=(Option.some.inj (Tryz.func3.symm.trans hfn)).symm
 refine⟨by kernel_rfl,fun j t ht=>?_⟩
 rw[Tryz.params3]at ht
 obtain rfl:t=24:=by simpa using Array.mem_of_getElem? ht
 exact(show Tryz.prog.wantsStandIn 24=false by kernel_rfl)
theorem shows_card:Rows.FlatShowsCardSaid:=
 Claim7.holds_tied_plain_at .later [] _ _ _ _ H_ (fun _ h=>by cases h) (by kernel_rfl) (fun _ h=>by cases h) flatShows_row_tie rfl ⟨rfl,rfl⟩ (by kernel_rfl) rfl Gr (by kernel_rfl)
end
end Go.Proofs.YtjehibknlmehmaaGreatDoor
