/- FlatKeeps answers true for every table of rows of the bulk that the statement names. No condition. -/
import Derived.Test.YtjehibknlmehmaaRows
import Derived.Deep.SlicePairs
import Derived.ProofKit
import Derived.Below
import Derived.ChangeSame
import Derived.ChangeMaps5
import Derived.WalkKit
import Derived.OpenShut
import Derived.WideKeyArgs
import Derived.SevenTiedAt
import Derived.Stop.LaidErr
import Derived.Deep.DeepHandedRow
import Derived.Test.YtjehibknlmehmaaNa
set_option maxRecDepth 100000
namespace Go.Proofs.Ytjehibknlmehmaa
section
open Go.Ab Go.Deep Go.ChangeShapes Go.WideShapes
def tf(l:List Arg):Nat:=(l.map fun g=>g.name.size+8).sum
def Cb(r:Row):Nat:=r.kind.size+r.name.size+8+tf r.args
def oD(l:List Row):Nat:=(l.map Cb).sum
instance:Inhabited Arg:=⟨⟨⟨#[]⟩,0⟩⟩
instance:Inhabited Row:=⟨⟨⟨#[]⟩,⟨#[]⟩,[],0,0,0⟩⟩
theorem Ge{H:Type}{R:List Nat}{f:Nat->Nat}{D:Nat->DataW H}(h:∀i∈R,f i<=8*Rows.uptoBulk (D i)):(R.map f).sum<=8*Rows.uptoBulkAll (R.map D):=by
 induction R with
 |nil=>simp
 |cons a R ih=>
  have h1:=h a (by simp)
  have h2:=ih fun i hi=>h i (by simp[hi])
  simp only[List.map_cons,List.sum_cons,Rows.uptoBulkAll]
  omega
def Ww(E:Env)(W:World)(b o:Nat)(cs:List AV):Prop:=∃arr T fz,W.heap[b]?=some (.cells arr T fz)/\BZ E o cs arr
theorem Gd{W:World}{b o:Nat}{v:Value}(h:W.cell? ⟨b,o,none⟩=some v):∃arr T fz,W.heap[b]?=some (.cells arr T fz)/\arr[o]?=some v:=by
 unfold World.cell? at h
 split at h
 ·rename_i c T fz hc
  simp at h
  exact⟨c,T,fz,hc,h⟩
 ·cases h
theorem LF{α:Type}{E:Env}{W:World}{b o sz:Nat}{f:α->List AV}{l:List α}(hf:∀y,(f y).length=sz)(hs:0<sz)(hl:l≠[])
  (h:∀q y,l[q]?=some y->∀j,j<sz->∃v c,W.cell? ⟨b,o+(q*sz+j),none⟩=some v/\(f y)[j]?=some c/\VR E c v/\v.oneCell'=true):Ww E W b o (l.flatMap f):=by
 have Ae:0<l.length:=List.length_pos_iff.2 hl
 obtain⟨v0,_,h0,_⟩:=h 0 l[0] (zJ Ae) 0 hs
 obtain⟨arr,T,fz,hb,_⟩:=Gd h0
 refine⟨arr,T,fz,hb,fun i c hi=>?_⟩
 have hil:i<l.length*sz:=by rw[<-fy hf l];exact(zM.1 hi).1
 have hq:i/sz<l.length:=Nat.div_lt_of_lt_mul (by rw[Nat.mul_comm];exact hil)
 have hj:i%sz<sz:=Nat.mod_lt _ hs
 have he:i/sz*sz+i%sz=i:=by rw[Nat.mul_comm];exact Nat.div_add_mod i sz
 obtain⟨v,c',h1,h2,h3,h4⟩:=h (i/sz) l[i/sz] (zJ hq) (i%sz) hj
 have hg:=fm hf l (i/sz) (i%sz) hj
 rw[he,zJ hq]at hg
 rw[hg]at hi
 simp only[Option.bind_some]at hi
 rw[h2]at hi
 cases hi
 obtain⟨kb,T',HD,qF,ha⟩:=Gd h1
 rw[hb]at qF;cases qF
 rw[he]at ha
 exact⟨v,ha,h3,h4⟩
section
variable {H:Type} {enc:TypeId×Value->H} {W:World}
def B1(W:World)(v:Value)(l:List Arg):Prop:=
 (∃a c,v=.slice a 0 c/\l=[])\/∃b o cap,v=.slice (some ⟨b,o,none⟩) l.length cap/\l.length<=cap/\cap<=maxLen/\l≠[]/\∀E,Ww E W b o (l.flatMap Arg.enc)
theorem LH{lr:Nat}{cs:List Value}{x:DataW H×List MemPlace}(h:DataW.trod enc Try.prog W 0 (fun _=>true) true lr 40 cs=some x) :
  ∃v l,cs=[v]/\B1 W v l/\(∃a len cap,v=.slice a len cap)/\tf l+1<=8*Rows.uptoBulk x.1:=by
 rcases open_slice_pairs Try.underlying40 Try.underlying44 (by kernel_rfl) rfl rfl (by kernel_rfl) (by kernel_rfl) h with⟨rfl,rfl⟩ |⟨a,len,cap,m,n,V0,V1,D0,D1,P0,P1,rfl,hb,hl,hm,kT,rfl,hx⟩
 ·exact⟨_,[],rfl,.inl ⟨none,0,rfl,rfl⟩,⟨_,_,_,rfl⟩,by simp[tf,Rows.uptoBulk]⟩
 ·simp only[zV]at kT
  subst kT
  have each:∀i,i<len->∃g:Arg,V0 i=.string g.name/\V1 i=.int .i64 g.index/\g.name.size+8<=8*Rows.uptoBulk (DataW.agg [D0 i,D1 i]):=by
   intro i hi
   obtain⟨_,_,t0,t1⟩:=hx i (by omega)
   obtain⟨s,h1,h2,_⟩:=DataW.trod_string Try.underlying9 t0
   obtain⟨z,h3,h4,_⟩:=DataW.trod_int Try.underlying3 t1
   simp only[Prod.mk.injEq]at h2 h4
   refine⟨⟨s,z⟩,by simpa using h1,by simpa using h3,?_⟩
   rw[h2.1,h4.1]
   simp only[Rows.uptoBulk,Rows.uptoBulkAll]
   have:s.data.toList.length=s.size:=rfl
   omega
  obtain⟨g,hg⟩:=choose_lt (α:=Arg) each
  have ZR:tf ((List.range len).map g)<=8*Rows.uptoBulkAll ((List.range len).map fun i=>DataW.agg [D0 i,D1 i]):=by
   unfold tf
   rw[List.map_map]
   exact Ge fun i hi=>(hg i (List.mem_range.1 hi)).2.2
  have tZ:tf ((List.range len).map g)+1<=8*Rows.uptoBulk (DataW.slice ((List.range len).map fun i=>DataW.agg [D0 i,D1 i]) ((List.range (m-len)).map fun j=>DataW.agg [D0 (len+j),D1 (len+j)])):=by
   simp only[Rows.uptoBulk];omega
  refine⟨_,(List.range len).map g,rfl,?_,⟨_,_,_,rfl⟩,tZ⟩
  by_cases h0:len=0
  ·subst h0
   exact .inl ⟨_,_,rfl,rfl⟩
  ·right
   obtain⟨b,o,spot⟩:=a
   have c0:=(hx 0 (by omega)).1
   have IJ:spot=none:=by simpa[Addr.add] using World.cell?_spot c0
   subst IJ
   refine⟨b,o,m,by rw[zZ,List.length_range],by rw[zZ,List.length_range];exact hl,hm,fun e=>h0 (by have:=congrArg List.length e;simpa using this),fun E=>?_⟩
   refine LF (sz:=2) Arg.bL (by omega) (fun e=>h0 (by have:=congrArg List.length e;simpa using this)) fun q y hq j hj=>?_
   rw[List.getElem?_map]at hq
   obtain⟨q',iS,rfl⟩:=Option.map_eq_some_iff.1 hq
   have p5:q<len:=by have:=(zM.1 iS).1;simpa using this
   have UB:q'=q:=by rw[List.getElem?_range p5]at iS;exact(Option.some.inj iS).symm
   subst UB
   obtain⟨a0,a1,_,_⟩:=hx q' (by omega)
   rw[add_plain]at a0
   obtain⟨g1,g2,_⟩:=hg q' p5
   match j,hj with
   |0,_=>exact⟨_,_,by rw[Nat.add_zero];rw[g1]at a0;exact a0,rfl,.sc _,rfl⟩
   |1,_=>exact⟨_,_,by rw[add_plain]at a1;rw[g2]at a1;exact a1,rfl,.sc _,rfl⟩
end
end
section
open Go.Ab Go.Deep Go.ChangeShapes Go.WideShapes
section
variable {H:Type} {enc:TypeId×Value->H} {W:World}
def qY(y:Row×Value):List Value:=[.string y.1.kind,.string y.1.name,y.2,.int .i64 y.1.num,.int .i64 y.1.rows,.int .i64 y.1.place]
def RowsIn(W:World)(v:Value)(l:List (Row×Value)):Prop:=
 (∀y∈l,B1 W y.2 y.1.args/\∃a len cap,y.2=.slice a len cap) /\
 ((∃a c,v=.slice a 0 c/\l=[])\/∃b o cap,v=.slice (some ⟨b,o,none⟩) l.length cap/\l.length<=cap/\cap<=maxLen/\l≠[]/\∀q y,l[q]?=some y->∀j v,(qY y)[j]?=some v->W.cell? ⟨b,o+(q*6+j),none⟩=some v)
theorem ME{lr:Nat}{cs:List Value}{x:DataW H×List MemPlace}(h:DataW.trod enc Try.prog W 0 (fun _=>true) true lr 42 cs=some x) :
  ∃y:Row×Value,cs=qY y/\B1 W y.2 y.1.args/\(∃a len cap,y.2=.slice a len cap)/\Cb y.1<=8*Rows.uptoBulk x.1/\y.1.num<=9223372036854775807:=by
 obtain⟨xs,n,_,rfl,hl,XW,hf⟩:=DataW.trod_struct Try.underlying42 h
 rw[show Try.prog.cellsOf 42=6 by kernel_rfl]at hl
 match cs,hl,xs,XW with
 |[c0,c1,c2,c3,c4,c5],_,[y0,y1,y2,y3,y4,y5],_=>
  have t0:=hf 0 _ rfl
  have t1:=hf 1 _ rfl
  have t2:=hf 2 _ rfl
  have t3:=hf 3 _ rfl
  have t4:=hf 4 _ rfl
  have t5:=hf 5 _ rfl
  have k9:Try.prog.cellsOf 9=1:=by kernel_rfl
  have vB:Try.prog.cellsOf 40=1:=by kernel_rfl
  have k3:Try.prog.cellsOf 3=1:=by kernel_rfl
  simp[k9,vB,k3]at t0 t1 t2 t3 t4 t5
  obtain⟨s0,h0,e0,_⟩:=DataW.trod_string Try.underlying9 t0
  obtain⟨s1,h1,e1,_⟩:=DataW.trod_string Try.underlying9 t1
  obtain⟨v,l,h2,ha,hs,hb⟩:=LH t2
  obtain⟨z3,h3,e3,wf3⟩:=DataW.trod_int Try.underlying3 t3
  obtain⟨z4,h4,e4,_⟩:=DataW.trod_int Try.underlying3 t4
  obtain⟨z5,h5,e5,_⟩:=DataW.trod_int Try.underlying3 t5
  simp at h0 h1 h2 h3 h4 h5
  subst h0 h1 h2 h3 h4 h5
  refine⟨(⟨s0,s1,l,z3,z4,z5⟩,c2),rfl,ha,hs,?_,?_⟩
  rotate_left
  ·simp[Lit.wf]at wf3
   have Fm:IntKind.i64.max=9223372036854775807:=by decide
   simp only
   omega
  simp only[List.map_cons,List.map_nil,Rows.uptoBulk,Rows.uptoBulkAll]
  rw[e0,e1,e3,e4,e5]
  simp only[Rows.uptoBulk,Cb]
  have q0:s0.data.toList.length=s0.size:=rfl
  have q1:s1.data.toList.length=s1.size:=rfl
  omega
theorem JJ{lr:Nat}{cs:List Value}{x:DataW H×List MemPlace}(h:DataW.trod enc Try.prog W 0 (fun _=>true) true lr 22 cs=some x) :
  ∃v l,cs=[v]/\RowsIn W v l/\oD (l.map (·.1))<=8*Rows.uptoBulk x.1/\∀y∈l,y.1.num<=9223372036854775807:=by
 rcases open_slice Try.underlying22 h with⟨rfl,rfl⟩ |⟨a,len,cap,m,n,D,Pl,rfl,hb,hl,hm,kT,rfl,hx⟩
 ·exact⟨_,[],rfl,⟨by simp,.inl ⟨none,0,rfl,rfl⟩⟩,by simp[oD],by simp⟩
 ·simp only[zV]at kT
  subst kT
  rw[show Try.prog.cellsOf 42=6 by kernel_rfl]at hx
  have each:∀i,i<len->∃y:Row×Value,(∀j v,(qY y)[j]?=some v->W.cell? ((a.add (i*6)).add j)=some v)/\B1 W y.2 y.1.args/\(∃a len cap,y.2=.slice a len cap)/\Cb y.1<=8*Rows.uptoBulk (D i)/\y.1.num<=9223372036854775807:=by
   intro i hi
   obtain⟨vW,h1,h2⟩:=hx i (by omega)
   obtain⟨_,hlen,uQ⟩:=World.cells?_some h1
   obtain⟨y,rfl,h3,h4,h5,h6⟩:=ME h2
   refine⟨y,fun j v hj=>?_,h3,h4,h5,h6⟩
   have:j<6:=by have:=(zM.1 hj).1;simpa[qY] using this
   rw[uQ j this,hj]
  obtain⟨g,hg⟩:=choose_lt (α:=Row×Value) each
  have ZR:oD (((List.range len).map g).map (·.1))<=8*Rows.uptoBulkAll ((List.range len).map D):=by
   unfold oD
   rw[List.map_map,List.map_map]
   exact Ge fun i hi=>(hg i (List.mem_range.1 hi)).2.2.2.1
  have tZ:oD (((List.range len).map g).map (·.1))<=8*Rows.uptoBulk (DataW.slice ((List.range len).map D) ((List.range (m-len)).map fun j=>D (len+j))):=by
   simp only[Rows.uptoBulk];omega
  refine⟨_,(List.range len).map g,rfl,⟨fun y hy=>?_,?_⟩,tZ,fun y hy=>by obtain⟨i,hi,rfl⟩:=List.mem_map.1 hy;exact(hg i (List.mem_range.1 hi)).2.2.2.2⟩
  ·obtain⟨i,hi,rfl⟩:=List.mem_map.1 hy
   exact⟨(hg i (List.mem_range.1 hi)).2.1,(hg i (List.mem_range.1 hi)).2.2.1⟩
  by_cases h0:len=0
  ·subst h0
   exact .inl ⟨_,_,rfl,rfl⟩
  ·right
   obtain⟨b,o,spot⟩:=a
   have c0:=(hg 0 (by omega)).1 0 _ rfl
   have IJ:spot=none:=by simpa[Addr.add] using World.cell?_spot c0
   subst IJ
   refine⟨b,o,m,by rw[zZ,List.length_range],by rw[zZ,List.length_range];exact hl,hm,fun e=>h0 (by have:=congrArg List.length e;simpa using this),fun q y hq j v hj=>?_⟩
   rw[List.getElem?_map]at hq
   obtain⟨q',iS,rfl⟩:=Option.map_eq_some_iff.1 hq
   have p5:q<len:=by have:=(zM.1 iS).1;simpa using this
   have UB:q'=q:=by rw[List.getElem?_range p5]at iS;exact(Option.some.inj iS).symm
   subst UB
   have:=(hg q' p5).1 j v hj
   rw[add_add,add_plain]at this
   exact this
end
end
section
open Go.Ab Go.Deep
def zm(W:World)(b:Nat):TypeId:=match W.heap[b]? with |some (.cells _ T _)=>T |_=>0
theorem GY{W:World}{b:Nat}{arr:Array Value}{T:TypeId}{fz:Nat×Nat}(h:W.heap[b]?=some (.cells arr T fz)):zm W b=T:=by unfold zm;rw[h]
def kI(v:Value)(sz:Nat):oV:=match v with |.slice (some a) _ cap=>⟨a.block,cap*sz,sz,a.off⟩ |_=>⟨0,0,0,0⟩
def u6(i:Nat)(y:Row×Value):AV:=if y.1.args.length=0 then .sc y.2 else .sl (i+2) 0 y.1.args.length
def ry(l:List (Row×Value)):List (Row×AV):=l.mapIdx fun i y=>(y.1,u6 i y)
def AA(v:Value)(l:List (Row×Value)):AV:=if l.length=0 then .sc v else .sl 1 0 l.length
def xO(W:World)(v:Value)(sz:Nat)(cells:List AV):AO:={ cells:=cells,sz:=sz,ty:=zm W (kI v sz).b,ro:=true,kind:=.row }
def A_(W:World)(v:Value)(l:List (Row×Value)):Nat->Option AO
 |0=>none
 |1=>if l.length=0 then none else some (xO W v 6 ((ry l).flatMap ay))
 |i+2=>(l[i]?).bind fun y=>if y.1.args.length=0 then none else some (xO W y.2 2 (y.1.args.flatMap Arg.enc))
def Dg(v:Value)(l:List (Row×Value)):Env
 |0=>none
 |1=>some (kI v 6)
 |i+2=>(l[i]?).map fun y=>kI y.2 2
def Nc(W:World)(v:Value)(l:List (Row×Value)):AH where
 obj:=A_ W v l
 next:=l.length+2
 lt:=by
  intro id o h
  match id with
  |0=>omega
  |1=>omega
  |i+2=>
   simp only[A_]at h
   obtain⟨y,hy,_⟩:=Option.bind_eq_some_iff.1 h
   have:=(zM.1 hy).1
   omega
theorem uy{l:List (Row×Value)}{i:Nat}:(ry l)[i]?=(l[i]?).map fun y=>(y.1,u6 i y):=by
 unfold ry;simp
theorem ux(l:List (Row×Value)):(ry l).length=l.length:=by unfold ry;simp
section
variable {W:World} {v:Value} {l:List (Row×Value)}
theorem On(iB:RowsIn W v l){i:Nat}{y:Row×Value}(hy:l[i]?=some y):VR (Dg v l) (u6 i y) y.2:=by
 unfold u6
 split
 ·exact .sc _
 ·rename_i du
  rcases(iB.1 y (zP hy)).1 with⟨_,_,_,h⟩ |⟨b,o,cap,hv,h1,h2,_,_⟩
  ·exact absurd (by rw[h];rfl) du
  ·rw[hv]
   exact .sl (B:=⟨b,cap*2,2,o⟩) (by simp only[Dg,hy,yB,kI,hv]) (.inl rfl) (by simp) h1 h2
theorem Mq(iB:RowsIn W v l):VR (Dg v l) (AA v l) v:=by
 unfold AA
 split
 ·exact .sc _
 ·rename_i du
  rcases iB.2 with⟨_,_,_,h⟩ |⟨b,o,cap,hv,h1,h2,_,_⟩
  ·exact absurd (by rw[h];rfl) du
  ·rw[hv]
   exact .sl (B:=⟨b,cap*6,6,o⟩) rfl (.inl rfl) (by simp) h1 h2
theorem Uc(iB:RowsIn W v l):Rel (Dg v l) (Nc W v l) W:=by
 have JN:∀id o,A_ W v l id=some o->o.ro=true:=by
  intro id o h
  match id with
  |0=>cases h
  |1=>
   simp only[A_]at h
   split at h
   ·cases h
   ·simp only[zQ]at h;rw[<-h];rfl
  |i+2=>
   simp only[A_]at h
   obtain⟨y,hy,h2⟩:=Option.bind_eq_some_iff.1 h
   split at h2
   ·cases h2
   ·simp only[zQ]at h2;rw[<-h2];rfl
 refine⟨fun id o h=>?_,fun i j oi oj _ _ hi hj _ _ _=>.inr ⟨JN i oi hi,JN j oj hj⟩,fun id hid=>?_⟩
 ·match id with
  |0=>cases h
  |1=>
   have h:(if l.length=0 then none else some (xO W v 6 ((ry l).flatMap ay)))=some o:=h
   split at h
   ·cases h
   ·rename_i du
    cases h
    rcases iB.2 with⟨_,_,_,h⟩ |⟨b,o,cap,hv,h1,h2,h3,h4⟩
    ·exact absurd (by rw[h];rfl) du
    ·have nu:Ww (Dg v l) W b o ((ry l).flatMap ay):=by
      refine LF (sz:=6) cO (by omega) (fun e=>h3 (List.length_eq_zero_iff.1 (by have:=congrArg List.length e;rw[ux]at this;exact this))) fun q y hq j hj=>?_
      rw[uy]at hq
      obtain⟨y',o_,rfl⟩:=Option.map_eq_some_iff.1 hq
      have hc:=h4 q y' o_ j
      match j,hj with
      |0,_=>exact⟨_,_,hc _ rfl,rfl,.sc _,rfl⟩
      |1,_=>exact⟨_,_,hc _ rfl,rfl,.sc _,rfl⟩
      |2,_=>
       refine⟨_,_,hc _ rfl,rfl,On iB o_,?_⟩
       obtain⟨a,len,cap,hs⟩:=(iB.1 y' (zP o_)).2
       rw[hs];rfl
      |3,_=>exact⟨_,_,hc _ rfl,rfl,.sc _,rfl⟩
      |4,_=>exact⟨_,_,hc _ rfl,rfl,.sc _,rfl⟩
      |5,_=>exact⟨_,_,hc _ rfl,rfl,.sc _,rfl⟩
     obtain⟨arr,T,HD,hb,fh⟩:=nu
     have tZ:kI v 6=⟨b,cap*6,6,o⟩:=by rw[hv];rfl
     refine⟨kI v 6,rfl,⟨arr,HD,?_,(fun fG=>by cases fG),?_,by rw[tZ];rfl,by rw[tZ];exact fh⟩⟩
     ·show W.heap[(kI v 6).b]?=some (.cells arr (zm W (kI v 6).b) HD)
      rw[tZ,GY hb];exact hb
     ·show((ry l).flatMap ay).length<=(kI v 6).n
      rw[tZ,fy cO,ux]
      exact Nat.mul_le_mul_right _ h1
  |i+2=>
   have h:((l[i]?).bind fun y=>if y.1.args.length=0 then none else some (xO W y.2 2 (y.1.args.flatMap Arg.enc)))=some o:=h
   obtain⟨y,hy,h2⟩:=Option.bind_eq_some_iff.1 h
   split at h2
   ·cases h2
   ·rename_i du
    cases h2
    rcases(iB.1 y (zP hy)).1 with⟨_,_,_,h⟩ |⟨b,o,cap,hv,h1,h2,h3,h4⟩
    ·exact absurd (by rw[h];rfl) du
    ·obtain⟨arr,T,HD,hb,fh⟩:=h4 (Dg v l)
     have tZ:kI y.2 2=⟨b,cap*2,2,o⟩:=by rw[hv];rfl
     refine⟨kI y.2 2,by simp only[Dg,hy,yB],⟨arr,HD,?_,(fun fG=>by cases fG),?_,by rw[tZ];rfl,by rw[tZ];exact fh⟩⟩
     ·show W.heap[(kI y.2 2).b]?=some (.cells arr (zm W (kI y.2 2).b) HD)
      rw[tZ,GY hb];exact hb
     ·show(y.1.args.flatMap Arg.enc).length<=(kI y.2 2).n
      rw[tZ,fy Arg.bL]
      exact Nat.mul_le_mul_right _ h1
 ·match id,hid with
  |i+2,hid=>
   have:l.length<=i:=by have hh:l.length+2<=i+2:=hid;omega
   simp only[Dg,List.getElem?_eq_none this,Option.map_none]
theorem RM(iB:RowsIn W v l)(hb:∀y∈l,y.1.args.length<=100000000)(hl:l.length<=100000000):RT (Nc W v l) (AA v l) (ry l):=by
 refine⟨?_,fun y hy=>⟨?_,?_⟩,by rw[ux];exact hl⟩
 rotate_left 2
 ·obtain⟨i,hi⟩:=List.mem_iff_getElem?.1 hy
  rw[uy]at hi
  obtain⟨y',o_,rfl⟩:=Option.map_eq_some_iff.1 hi
  exact hb y' (zP o_)
 ·by_cases h0:l.length=0
  ·have:l=[]:=List.length_eq_zero_iff.1 h0
   subst this
   rcases iB.2 with⟨a,c,hv,_⟩ |⟨_,_,_,_,_,_,h,_⟩
   ·exact .inr (.inl ⟨a,c,by rw[hv];rfl,rfl⟩)
   ·exact absurd rfl h
  ·refine .inr (.inr ⟨1,[],true,zm W (kI v 6).b,?_,fun h=>(by cases h),?_⟩)
   ·unfold AA;rw[zW h0,ux]
   ·show(if l.length=0 then none else some (xO W v 6 ((ry l).flatMap ay)))=_
    rw[zW h0,List.append_nil];rfl
 ·obtain⟨i,hi⟩:=List.mem_iff_getElem?.1 hy
  rw[uy]at hi
  obtain⟨y',o_,rfl⟩:=Option.map_eq_some_iff.1 hi
  show cH Arg.enc 2 44 _ (u6 i y') y'.1.args
  by_cases h0:y'.1.args.length=0
  ·have he:y'.1.args=[]:=List.length_eq_zero_iff.1 h0
   unfold u6
   rw[zX h0,he]
   rcases(iB.1 y' (zP o_)).1 with⟨a,c,hv,_⟩ |⟨_,_,_,_,_,_,h,_⟩
   ·exact .inr (.inl ⟨a,c,by rw[hv],rfl⟩)
   ·exact absurd he h
  ·refine .inr (.inr ⟨i+2,[],true,zm W (kI y'.2 2).b,?_,fun h=>(by cases h),?_⟩)
   ·unfold u6;rw[zW h0]
   ·show((l[i]?).bind fun y=>if y.1.args.length=0 then none else some (xO W y.2 2 (y.1.args.flatMap Arg.enc)))=_
    rw[o_,Option.bind_some,zW h0,List.append_nil];rfl
end
end
end Go.Proofs.Ytjehibknlmehmaa
namespace Go.Ab
open Go.RowKit
def AH.empty:AH:=⟨fun _=>none,0,fun _ _ h=>by cases h⟩
theorem Rel.empty(w:World):Rel (fun _=>none) AH.empty w:=⟨fun _ _ h=>(by cases h),fun _ _ _ _ _ _ h=>(by cases h),fun _ _=>rfl⟩
theorem Step.below{E E':Env}{h h':AH}{w w':World}(s:Step E h (fun _=>False) w E' h' w'):Below w.heap.size w w':=⟨s.os,s.tape,s.output,s.size,fun b hb=>s.frame b hb fun _ _ _ hm=>hm.elim⟩
end Go.Ab
namespace Go.Proofs.Ytjehibknlmehmaa
section
open Go.ChangeShapes Go.WideShapes Go.ChangeAt Go.RowKit Go.ChangeMaps
section
variable {H:Type} {enc:TypeId×Value->H} {P:Program}
theorem DM{f:Func}{s:ChangeSpec}{apart fresh handsOn again:Bool}{W W':World}{args:Array Value}{v:Value}{ds gs:List (DataW H)}{before pa pv:List MemPlace}
  (hW:DataW.Whole enc P f.params.toList s.vars apart W args.toList ds gs before)
  (jA:∀(b:Nat)(sp:Nat->Bool)(hd:Bool),DataW.TrodAll enc P W' b sp hd f.resultTypes.toList (v.resultList f.resultTypes.size) (s.fn H (ds++gs)).results [])
  (l0:∀sp:Nat->Bool,(∀p∈before,sp p.block=true)->DataW.TrodAll enc P W' 0 sp true f.params.toList args.toList (s.fn H (ds++gs)).args pa)
  (PU:∀sp:Nat->Bool,(∀p∈before,sp p.block=true)->DataW.TrodVars enc P W' sp s.vars (s.fn H (ds++gs)).vars pv)
  (Bl:before=pa++pv) (hb:Below W.heap.size W W')
  (eQ:∀(j:Nat)(t:TypeId)(r:Value),f.resultTypes[j]?=some t->(v.resultList f.resultTypes.size)[j]?=some r->Value.okWide P W' .any 0 t r) :
  s.post enc P f apart fresh handsOn again W args v W':=by
 have aR:∀p∈before,p.block<W.heap.size:=fun p hp=>hW.lt p hp
 have hold:∀p∈before,(fun b=>decide (b<W.heap.size)) p.block=true:=fun p hp=>by simpa using aR p hp
 refine⟨ds,gs,before,[],pa,pv,hW,jA _ _ _,l0 _ hold,PU _ hold,World.keptBut_mono (fun p hp=>⟨hp,?_⟩) (hb.frame (·∈before)),fun _=>?_⟩
 ·rw[Bl,List.mem_append]at hp
  exact Or.inr hp
 ·obtain⟨_,_,_,_,_,hz,hn⟩:=hW
  refine⟨eQ,_,_,([]++pa)++pv,⟨[]++pa,pv,trodAll_append (l0 _ (fun _ _=>rfl)) (jA _ _ _),PU _ (fun _ _=>rfl),rfl,?_,?_⟩,?_⟩
  ·intro b off hp
   have iB:MemPlace.cell b off∈before:=by rw[Bl];simpa using hp
   rw[hb.frozen (aR _ iB)]
   exact hz b off iB
  ·intro ha
   have:=hn ha
   rw[Bl]at this
   simpa using this
  ·intro p hp _
   rw[Bl]
   simpa using hp
end
theorem Try.own:ownKnob Try.prog.godebug=none:=by kernel_rfl
theorem Try.laidOut:laidOutB Try.prog=true:=by kernel_rfl
end
section
open Go.ChangeShapes Go.WideShapes Go.ChangeAt Go.RowKit Go.ChangeMaps Go.Ab
theorem Om{l:List Arg}:8*l.length<=tf l:=by
 unfold tf
 induction l with
 |nil=>simp
 |cons a l ih=>simp only[List.map_cons,List.sum_cons,List.length_cons];omega
theorem MC{l:List Row}:8*l.length<=oD l:=by
 unfold oD
 induction l with
 |nil=>simp
 |cons a l ih=>simp only[List.map_cons,List.sum_cons,List.length_cons,Cb];omega
theorem MB{l:List Row}{r:Row}(h:r∈l):8*r.args.length<=oD l:=by
 unfold oD
 induction l with
 |nil=>cases h
 |cons a l ih=>
  simp only[List.map_cons,List.sum_cons]
  rcases List.mem_cons.1 h with rfl |h
  ·have:=Om (l:=r.args);unfold Cb;omega
  ·have:=ih h;omega
theorem MD{W:World}{v:Value}{l:List (Row×Value)}(iB:RowsIn W v l)(hs:oD (l.map (·.1))<=500000000)(hn:∀y∈l,y.1.num<=9223372036854775807) :
  Calls Try.prog 6 #[v] W fun e w'=>e=.returned (.bool true)/\Below W.heap.size W w':=by
 have hb:∀y∈l,y.1.args.length<=100000000:=fun y hy=>by have:=MB (List.mem_map_of_mem (f:=(·.1)) hy);omega
 have hl:l.length<=100000000:=by have:=MC (l:=l.map (·.1));rw[zZ]at this;omega
 have hn':∀y∈ry l,y.1.num<=9223372036854775807:=fun y hy=>by
  obtain⟨i,hi⟩:=List.mem_iff_getElem?.1 hy
  rw[uy]at hi
  obtain⟨y',o_,rfl⟩:=Option.map_eq_some_iff.1 hi
  exact hn y' (zP o_)
 have hc:aE Try.prog 6 [AA v l] (Nc W v l) (fun _=>False) (fun ae _=>ae=.ret (B true)):=Ks (RM iB hb hl) hn' fun _=>rfl
 refine(hc _ W [v] (Uc iB) (.cons (Mq iB) .nil)).mono ?_
 rintro e w' ⟨E',h',ae,gh,he,rfl⟩
 refine⟨?_,gh.below⟩
 cases e<;>first |exact he.elim |skip
 cases he
 rfl
theorem I6{W W':World}(hb:Below W.heap.size W W'){x:MemPlace}(hx:x.block<W.heap.size):W.sameAt W' x:=by
 cases x with
 |cell b off=>
  show W'.cell? ⟨b,off,none⟩=W.cell? ⟨b,off,none⟩
  unfold World.cell?
  rw[hb.block b hx]
 |map b=>exact hb.block b hx
theorem JE{W:World}{base:Nat}{v v1:Value}(h:Value.okWide Try.prog W .any base 22 v)(hc:v.cells.toList=[v1]):v=v1:=by
 unfold Value.okWide at h
 rw[Try.underlying22]at h
 simp only[Cell.okWide,Cell.ok,Try.underlying22]at h
 cases v<;>simp_all [Value.cells]
theorem DL(H:Type)(enc:TypeId×Value->H)(W:World)(base:Nat)(args:Array Value)(ds gs:List (DataW H))(before:List MemPlace)
  (II:∀(j:Nat) t v,Try.f6.params[j]?=some t->args[j]?=some v->Value.okWide Try.prog W .any base t v)
  (hW:DataW.Whole enc Try.prog Try.f6.params.toList Rows.flatKeepsSpec.vars false W args.toList ds gs before) (hk:Rows.uptoSmall H (ds++gs)=true) :
  Calls Try.prog 6 args W fun e W'=>∃v,e=.returned v/\Rows.flatKeepsSpec.post enc Try.prog Try.f6 false true false false W args v W':=by
 have U_:=hW
 obtain⟨p,q,Yt,hV,rfl,mR,hnd⟩:=hW
 have hA:DataW.TrodAll enc Try.prog W 0 (fun _=>true) true Try.f6.params.toList args.toList ds p:=Yt
 rw[Try.params6]at hA II
 obtain⟨v0,d0,rfl,rfl,h0⟩:=trodAll_one hA
 obtain⟨rfl,rfl⟩:=trodVars_none hV
 clear Yt
 simp only[List.append_nil]at U_
 have FT:=h0
 obtain⟨lr,hf⟩:=h0
 obtain⟨v1,l,hc,iB,hs,rN⟩:=JJ hf
 have hv:=JE (II 0 22 v0 rfl rfl) hc
 subst hv
 have abY:Rows.uptoBulk d0<=1048576:=by
  have:=of_decide_eq_true hk
  simp only[List.append_nil,Rows.uptoBulkAll]at this
  omega
 have hs:oD (l.map (·.1))<=8*Rows.uptoBulk d0:=hs
 refine(MD iB (by omega) rN).mono fun e W' ⟨he,Hr⟩=>?_
 subst he
 have mJ:∀x∈p,W.sameAt W' x:=fun x hx=>I6 Hr (U_.lt x hx)
 exact⟨_,rfl,DM (pa:=p) (pv:=[]) U_ (fun _ _ _=>trodAll_mk1 (shut_bool Try.underlying4 true)) (fun sp PY=>trodAll_mk1 (WideElems.Trod_stays (P:=Try.prog) Try.laidOut (by kernel_rfl) (of_decide_eq_true (by kernel_rfl)) FT mJ PY)) (fun _ _=>rfl) (by simp) Hr (ok_one (by kernel_rfl) rfl (okWide_bool_mk Try.underlying4 true))⟩
theorem Ij(os:Os){H:Type}(enc:TypeId×Value->H):∃places,DataW.whole enc Try.prog ((World.holding Try.prog os ⟨#[],#[],[]⟩).forCall (fun _ _=>0) ⟨#[],#[.slice none 0 0],[]⟩).memory Try.f6.params.toList Rows.flatKeepsSpec.vars false #[Value.slice none 0 0].toList 8=some ([.nil],[],places):=
 ⟨[],by kernel_rfl⟩
theorem GJ(os:Os)(started:os.Started)(H:Type)(enc:TypeId×Value->H)(F:Stop.Interp) :
  ReturnsInHanded {} Try.checked os 6 .any ((Rows.OpenSpec.upto Rows.flatKeepsSpec).preRow enc Try.prog Try.f6 Rows.flatKeepsUptoRow.domain false Rows.flatKeepsUptoRow.laid) (((Rows.OpenSpec.upto Rows.flatKeepsSpec).at F).post enc Try.prog Try.f6 false true false false):=by
 obtain⟨places,hx⟩:=Ij os enc
 refine returnsInHanded_of_row (C:=Try.checked) (s:=Rows.OpenSpec.upto Rows.flatKeepsSpec) Try.own started (by kernel_rfl) Try.func6
  (witness_row_at (enc:=enc) (C:=Try.checked) false (World.holding Try.prog os ⟨#[],#[],[]⟩) #[.slice none 0 0] rfl (by kernel_rfl) (by kernel_rfl) (by kernel_rfl)
   (OpenSpec.preRow_of_cond 8 hx (by kernel_rfl) (fun k hk=>by cases hk;kernel_rfl) (by kernel_rfl) (show laidMet Try.prog Rows.flatKeepsUptoRow.laid _ from laidMet_of_run' 80 (by kernel_rfl) (by kernel_rfl)))) ?_
 intro W base args ds gs before II hW _ Qn _ _ _ _
 exact DL H enc W base args ds gs before II hW (Qn _ rfl)
theorem flatkeeps_said:Rows.FlatKeepsUptoSaid:=
 OpenClaim.holds_of_cond 6 Try.f6 rfl rfl rfl rfl rfl rfl rfl ⟨rfl,rfl,rfl,rfl,rfl⟩ rfl rfl rfl rfl rfl (by kernel_rfl) Try.func6 (by kernel_rfl)
  (of_decide_eq_true (by kernel_rfl)) (by unfold Func.isWrapper;first |(rw[zX (by decide +kernel)];kernel_rfl) |(rw[zW (by decide +kernel)];exact⟨rfl,rfl⟩))
  (fun os started H enc _ F=>by rw[OpenClaim.pre_eq_preRow];exact GJ os started H enc F)
end
end Go.Proofs.Ytjehibknlmehmaa
