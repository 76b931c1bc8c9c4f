/- FlatUnrolls answers true for every table of rows of the bulk that the statement names. No condition. -/
import Derived.Test.YtjehibknlmehmaaRows
import Derived.Deep.SlicePairs
import Derived.ProofKit
import Derived.Below
import Derived.ChangeSame
import Derived.ChangeMaps5
import Derived.WalkKit
import Derived.OpenShut
import Derived.WideKeyArgs
import Derived.SevenTiedAt
import Derived.Stop.LaidErr
import Derived.Deep.DeepHandedRow
import Derived.Test.YtjehibknlmehmaaUa
set_option maxRecDepth 100000
namespace Go.Proofs.Ytjehibknlmehmaa
section
open Go.Ab
attribute [-simp] eAlloc_d eStore_f
theorem Fr.new0{h h1 h2:AH}{S:Nat->Prop}(a:Fr h h1 fun _=>False)(b:Fr h1 h2 S)(hs:∀i,S i->h.next<=i):Fr h h2 fun _=>False:=a.trans (b.mono fun i hi=>.inr (hs i hi))
theorem mid_of{β:Type}{A B C R:List β}{a b:Nat}(ha:A.length=a)(hb:B.length=b):((A++(B++C)++R).drop a).take b=B:=by
 subst ha hb
 rw[List.append_assoc,List.drop_left,List.append_assoc,List.take_left]
section
variable {α:Type} {f:α->List AV} {sz bytes:Nat} {ty:TypeId} {h:AH} {W:Nat->Prop}
theorem seg_ok{K:AV->Prop}{x:AV}{l:List α}{lo hi:Nat}{lo' hi':Option AV}(hx:SlR f sz ty h x l)(hne:l≠[])(hf:∀y,(f y).length=sz)(hsz:0<sz)(h1:lo<=hi)(h2:hi<=l.length)
  (e1:bnd lo' 0=some (lo:Int)) (e2:bnd hi' l.length=some (hi:Int)) (hK:∀v,news sz v h (hi-lo) (((l.drop lo).take (hi-lo)).flatMap f)->K v):pSlL (some sz) x lo' hi' h K:=by
 rcases hx with⟨_,e⟩ |⟨_,_,_,e⟩ |⟨id,rest,ro,ty',rfl,_,ho⟩
 ·exact absurd e hne
 ·exact absurd e hne
 refine⟨lo,hi,e1,e2,⟨by omega,by omega,.inr ⟨_,ho,rfl,rfl,hsz,.inl (by omega)⟩⟩,hK _ ?_⟩
 have hl:(l.flatMap f).length=l.length*sz:=flat_len hf l
 have hm:lo*sz+(hi-lo)*sz<=l.length*sz:=by rw[<-Nat.add_mul];exact Nat.mul_le_mul_right _ (by omega)
 refine .inr ⟨by simp,_,ho,rfl,?_,?_⟩
 ·simp only[List.length_append,hl,zY,zG];omega
 ·simp only[zY,zG]
  have e:l=l.take lo++((l.drop lo).take (hi-lo)++(l.drop lo).drop (hi-lo)):=by rw[List.take_append_drop,List.take_append_drop]
  have a1:((l.take lo).flatMap f).length=lo*sz:=by rw[flat_len hf,yA,Nat.min_eq_left (by omega)]
  have a2:(((l.drop lo).take (hi-lo)).flatMap f).length=(hi-lo)*sz:=by rw[flat_len hf,yA,List.length_drop,Nat.min_eq_left (by omega)]
  conv=>rhs;rw[e]
  rw[List.flatMap_append,List.flatMap_append]
  exact(mid_of a1 a2).symm
theorem app_seg{K:AV->AH->Prop}{id n m:Nat}{v:AV}{cells cs:List AV}(hx:h.obj id=some (mkO cells sz ty))(hl:cells.length=n*sz)(hv:news sz v h m cs)(hc:cs.length=m*sz)(hn:n+m<=100000000)(hb:bytes<=1024)(hW:W id)
  (hK:∀id' h',h'.obj id'=some (mkO (cells++cs) sz ty)->(id'=id\/h.next<=id')->Fr h h' (·=id)->K (.sl id' 0 (n+m)) h'):eApp (some (sz,bytes,ty)) (.sl id 0 n) v h W K:=by
 have hid:=h.lt _ _ hx
 have hnb:(n+m)*bytes<=140737488355328:=by
  have:(n+m)*bytes<=100000000*1024:=Nat.mul_le_mul hn hb
  omega
 refine⟨m,cs,hv,?_⟩
 show if m=0 then _ else _
 by_cases h0:m=0
 ·rw[zX h0]
  subst h0
  have:cs=[]:=List.length_eq_zero_iff.1 (by simpa using hc)
  subst this
  exact hK id h (by simpa using hx) (.inl rfl) Fr.refl
 ·rw[zW h0]
  refine⟨rfl,_,⟨hW,hx,rfl,rfl,rfl,rfl,by simp[mkO,hl],by omega,hnb⟩,?_⟩
  refine hK _ _ ?_ (.inr (zU _)) ?_
  ·rw[AH.alloc_obj,zX (by simp[AH.del_next])]
   simp only[mkO]
   rw[List.take_of_length_le (by omega)]
  ·refine⟨by simp only[AH.alloc_next,AH.del_next];omega,fun i hi hne=>?_⟩
   rw[AH.alloc_old (by simp only[AH.del_next];omega),AH.del_old hne]
end
def adjP(δ:Int):List (Row×AV)->List (Row×AV)
 |[]=>[]
 |x::A=>(if (A.length:Int)+1<=x.1.rows then{ x.1 with rows:=x.1.rows+δ } else x.1,x.2)::adjP δ A
theorem adjP_map{δ:Int}:∀{A:List (Row×AV)},(adjP δ A).map (·.1)=adj δ (A.map (·.1))
 |[]=>rfl
 |x::A=>by simp only[adjP,List.map_cons,adj,adjP_map,zZ]
theorem adjP_len{δ:Int}:∀{A:List (Row×AV)},(adjP δ A).length=A.length
 |[]=>rfl
 |_::A=>by simp only[adjP,List.length_cons,adjP_len]
theorem adjP_get{δ:Int}:∀{A:List (Row×AV)}{k:Nat}{y:Row×AV},A[k]?=some y->(adjP δ A)[k]?=some (if ((A.length:Int)<=k+y.1.rows) then{ y.1 with rows:=y.1.rows+δ } else y.1,y.2)
 |[],k,y,h=>by simp at h
 |x::A,0,y,h=>by
  simp only[zA,zQ]at h
  subst h
  simp only[adjP,zA,List.length_cons]
  have:((A.length:Int)+1<=x.1.rows)=(((A.length+1:Nat):Int)<=((0:Nat):Int)+x.1.rows):=by apply propext;omega
  simp only[this]
 |x::A,k+1,y,h=>by
  rw[zB]at h
  simp only[adjP,zB]
  rw[adjP_get h]
  have:((A.length:Int)<=k+y.1.rows)=(((x::A).length:Int)<=((k+1:Nat):Int)+y.1.rows):=by apply propext;simp only[List.length_cons];omega
  simp only[this]
theorem adjP_args{δ:Int}:∀{A:List (Row×AV)}{y:Row×AV},y∈adjP δ A->∃z∈A,(y.1.args=z.1.args/\y.1.num=z.1.num)/\y.2=z.2
 |[],y,h=>by cases h
 |x::A,y,h=>by
  simp only[adjP]at h
  rcases List.mem_cons.1 h with rfl |h
  ·exact⟨x,List.mem_cons_self ..,by split<;>exact⟨rfl,rfl⟩,rfl⟩
  ·obtain⟨z,hz,e⟩:=adjP_args h
   exact⟨z,List.mem_cons_of_mem _ hz,e⟩
theorem put_fieldU{α:Type}{f:α->List AV}{k:Nat}(hf:∀x,(f x).length=k):∀{l:List α}{i o:Nat}{x y:α}{v:AV},l[i]?=some x->o<k->(f x).set o v=f y->putCells (l.flatMap f) (i*k+o) [v]=(l.set i y).flatMap f
 |[],i,o,x,y,v,h,_,_=>by simp at h
 |a::l,0,o,x,y,v,h,ho,hv=>by
  simp at h;subst h
  simp only[putCells,Nat.zero_mul,zG,List.set_cons_zero,List.flatMap_cons]
  rw[List.set_append_left _ _ (by rw[hf];exact ho),hv]
 |a::l,i+1,o,x,y,v,h,ho,hv=>by
  simp at h
  have ih:=put_fieldU hf (l:=l) (i:=i) (o:=o) (y:=y) (v:=v) h ho hv
  simp only[putCells]at ih ⊢
  simp only[List.set_cons_succ,List.flatMap_cons]
  have e:(i+1)*k+o=(f a).length+(i*k+o):=by rw[hf,Nat.succ_mul];omega
  rw[e,List.set_append_right _ _ (by omega),Nat.add_sub_cancel_left,ih]
theorem Seg.at_(n:Nat):∀{L:List Row}{i:Nat}{r:Row}(_:L.length=n)(_:Seg L)(_:L[i]?=some r),0<=r.rows/\(i:Int)+1+r.rows<=L.length:=by
 induction n using Nat.strongRecOn with
 |ind n ih=>
 intro L i r hn hs hr
 cases L with
 |nil=>simp at hr
 |cons x t=>
  rw[List.length_cons]at hn ⊢
  obtain⟨⟨h0,h1⟩,_,s1,s2⟩:=hs.inv
  cases i with
  |zero=>
   simp only[zA,zQ]at hr
   subst hr
   exact⟨h0,by omega⟩
  |succ j=>
   rw[zB]at hr
   by_cases hj:j<x.rows.toNat
   ·have g:(t.take x.rows.toNat)[j]?=some r:=by rw[List.getElem?_take_of_lt hj];exact hr
    have hlt:(t.take x.rows.toNat).length=x.rows.toNat:=by rw[yA];omega
    obtain⟨a,b⟩:=ih _ (by omega) hlt s1 g
    rw[hlt]at b
    exact⟨a,by omega⟩
   ·have g:(t.drop x.rows.toNat)[j-x.rows.toNat]?=some r:=by rw[List.getElem?_drop,show x.rows.toNat+(j-x.rows.toNat)=j by omega];exact hr
    obtain⟨a,b⟩:=ih _ (by rw[List.length_drop];omega) rfl s2 g
    rw[List.length_drop]at b
    exact⟨a,by omega⟩
end
section
open Go.Ab
attribute [-simp] eAlloc_d eStore_f
theorem pIxA_at{sz id len k:Nat}{K:AV->Prop}(h:k<len)(hK:K (.ptr id (k*sz))):pIxA (some (sz,none)) (.sl id 0 len) (I k) K:=by
 refine⟨⟨by omega,by omega⟩,?_⟩
 simpa using hK
section
variable {W:Nat->Prop} {QR QN:VK} {QE:Nat->VK} {QP:AV->AH->Prop} {xr:AV}
theorem F14_adj{h:AH}{A T:List (Row×AV)}{id e:Nat}{δ:Int}(ho:h.obj id=some (mkO ((A++T).flatMap encRA) 6 42))(hW:W id)(hA:A.length<=1000000)(hr:∀y∈A,0<=y.1.rows/\y.1.rows<=1000000)(hδ:-1000000<=δ/\δ<=1000000000)
  (hk:∀h',h'.obj id=some (mkO ((adjP δ A++T).flatMap encRA) 6 42)->Fr h h' (·=id)->F14.n3 W QR QN QE QP xr (.sl id 0 (A++T).length) (I e) h') :
  F14.n9 W QR QN QE QP xr (I A.length) (.sl id 0 (A++T).length) (I e) (I δ) (I 0) h:=by
 unfold F14.n9
 refine vLoop_of (ι:=Nat) (fun k v h'=>v=[xr,I A.length,.sl id 0 (A++T).length,I e,I δ,I k]/\k<=A.length/\h'.obj id=some (mkO (((adjP δ A).take k++A.drop k++T).flatMap encRA) 6 42)/\Fr h h' (·=id)) (fun k=>A.length-k) 0 ⟨rfl,by omega,by simpa using ho,Fr.refl⟩ ?_
 rintro K k v h' ⟨rfl,hkl,ho',f1⟩ step
 simp only[F14.g2_,zN,zO,F14.n8,pBin_lss]
 by_cases hlt:k<A.length
 ·have hli:(k:Int)<A.length:=by omega
  have g0:A[k]?=some A[k]:=zJ hlt
  have hy:=hr _ (List.getElem_mem hlt)
  have hadj:=adjP_get (δ:=δ) g0
  have hdrop:A.drop k=A[k]::A.drop (k+1):=List.drop_eq_getElem_cons hlt
  generalize A[k]=y at *
  have hlen:(adjP δ A).length=A.length:=adjP_len
  have htk:((adjP δ A).take k).length=k:=by rw[yA,hlen];omega
  have gk:((adjP δ A).take k++A.drop k++T)[k]?=some y:=by
   rw[hdrop,List.append_assoc,List.getElem?_append_right (by omega),htk];simp
  have hS:SlR encRA 6 42 h' (.sl id 0 (A++T).length) ((adjP δ A).take k++A.drop k++T):=.inr (.inr ⟨id,[],false,42,by
   congr 1;simp only[List.length_append,List.length_drop,htk];omega,fun _=>rfl,by simpa[mkO] using ho'⟩)
  have hkt:k<(A++T).length:=by rw[List.length_append];omega
  have w1:IntKind.i64.wrap ((k:Int)+y.1.rows)=(k:Int)+y.1.rows:=wrap_in (by omega) (by omega)
  have w2:IntKind.i64.wrap (y.1.rows+δ)=y.1.rows+δ:=wrap_in (by omega) (by omega)
  have w3:IntKind.i64.wrap ((k:Int)+1)=((k+1:Nat):Int):=by rw[wrap_in (by omega) (by omega)];simp
  have htake:(adjP δ A).take (k+1)=(adjP δ A).take k++[(if ((A.length:Int)<=k+y.1.rows) then{ y.1 with rows:=y.1.rows+δ } else y.1,y.2)]:=by
   rw[List.take_add_one,hadj];rfl
  simp only[zL hli,F14.n7,aIf_b,zD,zF,zC,zI,F14.n6]
  refine rng_fld (k:=4) hS encRA_len gk (by omega) rfl fun _=>?_
  simp only[pBin_add,w1,pBin_geq,ge_iff_le]
  by_cases hc:(A.length:Int)<=k+y.1.rows
  ·simp only[zL hc,F14.n5,aIf_b,zD,zF,zC,zI]
   refine rng_fld (k:=4) hS encRA_len gk (by omega) rfl fun _=>?_
   simp only[pBin_add,w2]
   refine pIxA_at hkt ?_
   have hcl:k*6+4<(((adjP δ A).take k++A.drop k++T).flatMap encRA).length:=by
    rw[flat_len encRA_len]
    simp only[List.length_append,List.length_drop,htk]
    omega
   simp only[pFld_ptr,eStore_f,ho',avC_int,stk_mk]
   refine⟨⟨hW,rfl,rfl,by show _+1<=_;omega⟩,?_⟩
   have o1:=put_mk (off:=k*6+4) (cs:=[I (y.1.rows+δ)]) ho'
   have f2:Fr h' (h'.put id (k*6+4) [I (y.1.rows+δ)]) (·=id):=Fr.refl.put (.inl rfl)
   generalize h'.put id (k*6+4) [I (y.1.rows+δ)]=h2 at *
   simp only[F14.n4,pBin_add,w3]
   refine step (k+1) _ _ (by omega) ⟨rfl,by omega,?_,f1.trans (f2.mono fun _ h=>.inl h)⟩
   rw[o1,put_fieldU encRA_len gk (by omega) (y:=({ y.1 with rows:=y.1.rows+δ },y.2)) (by simp[encRA])]
   rw[htake,zX hc,hdrop,List.append_assoc,List.append_assoc,List.append_assoc,List.set_append_right _ _ (by omega),htk,Nat.sub_self]
   rfl
  ·simp only[zK hc,F14.n5,aIf_b,zE,zD,zC,zH,F14.n4,pBin_add,w3]
   refine step (k+1) _ _ (by omega) ⟨rfl,by omega,?_,f1⟩
   rw[ho',htake,zW hc,hdrop,List.append_assoc,List.append_assoc,List.append_assoc]
   rfl
 ·have hk':k=A.length:=by omega
  subst hk'
  have hnl:¬((A.length:Int)<A.length):=by omega
  simp only[zK hnl,F14.n7,aIf_b,zE,zD,zC,zH,zV]
  refine hk h' ?_ f1
  rw[ho',List.take_of_length_le (by rw[adjP_len];omega),List.drop_of_length_le (by omega),List.append_nil]
end
end
section
open Go.Ab
attribute [-simp] eAlloc_d eStore_f
theorem seg_len{l:List (Row×AV)}{lo m:Nat}(h:lo+m<=l.length):((l.drop lo).take m).length=m:=by rw[yA,List.length_drop];omega
theorem mem_rep{α:Type}{n:Nat}{l:List α}{x:α}(h:x∈(List.replicate n l).flatten):x∈l:=by
 obtain⟨m,h1,h2⟩:=List.mem_flatten.1 h
 rw[List.eq_of_mem_replicate h1]at h2;exact h2
section
variable {W:Nat->Prop} {QR QN:VK} {QE:Nat->VK} {QP:AV->AH->Prop} {xr:AV} {rs:List (Row×AV)} {y:Row×AV} {i vr:Nat}
structure FD (W:Nat->Prop) (h0 h:AH) (xr:AV) (rs:List (Row×AV)) (y:Row×AV) (i vr:Nat):Prop where
 rt0:RT h0 xr rs
 hy:rs[i]?=some y
 ov:h.obj vr=some (mkO (encRA y) 6 42)
 row:0<=y.1.rows/\(i:Int)+1+y.1.rows<=rs.length
 num:0<=y.1.num/\y.1.num<=20
 len:rs.length<=20000
 all:∀z∈rs,0<=z.1.rows/\z.1.rows<=20000
 W:∀id,h0.next<=id->W id
 f:Fr h0 h (fun _=>False)
theorem FD.rt{h0 h:AH}(d:FD W h0 h xr rs y i vr):RT h xr rs:=d.rt0.fr0 d.f
theorem FD.fr{h0 h h':AH}{S:Nat->Prop}(d:FD W h0 h xr rs y i vr)(f:Fr h h' S)(hs:∀j,S j->h0.next<=j/\j≠vr):FD W h0 h' xr rs y i vr:=⟨d.rt0,d.hy,f.obj d.ov fun e=>(hs _ e).2 rfl,d.row,d.num,d.len,d.all,d.W,Fr.new0 d.f f fun j hj=>(hs j hj).1⟩
theorem FD.lt{h0 h:AH}(d:FD W h0 h xr rs y i vr):i<rs.length:=(zM.1 d.hy).1
theorem FD.ne{h0 h:AH}(d:FD W h0 h xr rs y i vr):rs≠[]:=fun e=>by have:=d.lt;rw[e]at this;simp at this
def outP(rs:List (Row×AV))(y:Row×AV)(i:Nat):List (Row×AV):=
 adjP ((y.1.num-1)*y.1.rows-1) (rs.take i)++(List.replicate y.1.num.toNat ((rs.drop (i+1)).take y.1.rows.toNat)).flatten++rs.drop (i+1+y.1.rows.toNat)
theorem outP_mem{z:Row×AV}(h:z∈outP rs y i):∃x∈rs,(z.1.args=x.1.args/\z.1.num=x.1.num)/\z.2=x.2:=by
 unfold outP at h
 rcases List.mem_append.1 h with h |h
 ·rcases List.mem_append.1 h with h |h
  ·obtain⟨x,hx,e⟩:=adjP_args h
   exact⟨x,List.mem_of_mem_take hx,e⟩
  ·exact⟨z,List.mem_of_mem_drop (List.mem_of_mem_take (mem_rep h)),⟨rfl,rfl⟩,rfl⟩
 ·exact⟨z,List.mem_of_mem_drop h,⟨rfl,rfl⟩,rfl⟩
theorem mul_b{m n:Nat}(hn:n<=20)(hm:m<=20000):n*m<=400000:=zR (Nat.mul_le_mul hn hm) (by omega)
theorem outP_len{h0 h:AH}(d:FD W h0 h xr rs y i vr):(outP rs y i).length=i+y.1.num.toNat*y.1.rows.toNat+(rs.length-(i+1+y.1.rows.toNat)):=by
 have:=d.lt
 have:=d.row
 unfold outP
 rw[List.length_append,List.length_append,adjP_len,rep_len,seg_len (by omega),yA,List.length_drop,Nat.min_eq_left (by omega)]
theorem F14_end{h0 h:AH}{id:Nat}(d:FD W h0 h xr rs y i vr)(hid:h0.next<=id)
  (ho:h.obj id=some (mkO ((adjP ((y.1.num-1)*y.1.rows-1) (rs.take i)++(List.replicate y.1.num.toNat ((rs.drop (i+1)).take y.1.rows.toNat)).flatten).flatMap encRA) 6 42)) {n:Nat} (hn:n=i+y.1.num.toNat*y.1.rows.toNat)
  (hR:∀xo h',RT h' xo (outP rs y i)->Fr h0 h' (fun _=>False)->QR [xo,B true] h'):F14.n3 W QR QN QE QP xr (.sl id 0 n) (I (i+1+y.1.rows.toNat:Nat)) h:=by
 have h1:=d.lt;have h2:=d.row;have h3:=d.len
 have hm:=mul_b (n:=y.1.num.toNat) (m:=y.1.rows.toNat) (by have:=d.num;omega) (by omega)
 unfold F14.n3
 refine seg_ok (lo:=i+1+y.1.rows.toNat) (hi:=rs.length) d.rt.r d.ne encRA_len (by omega) (by omega) (zU _) rfl rfl fun v hv=>?_
 have el:(rs.drop (i+1+y.1.rows.toNat)).take (rs.length-(i+1+y.1.rows.toNat))=rs.drop (i+1+y.1.rows.toNat):=by rw[List.take_of_length_le];rw[List.length_drop];omega
 rw[el]at hv
 refine app_seg ho ?_ hv ?_ (by omega) (by decide) (d.W _ hid) fun id' h' o' hid' f'=>?_
 ·rw[flat_len encRA_len,List.length_append,adjP_len,rep_len,seg_len (by omega),yA,Nat.min_eq_left (by omega),hn]
 ·rw[flat_len encRA_len,List.length_drop]
 ·have fn:Fr h0 h' fun _=>False:=Fr.new0 d.f f' (fun j hj=>by subst hj;exact hid)
  have e2:SlR encRA 6 42 h' (.sl id' 0 (n+(rs.length-(i+1+y.1.rows.toNat)))) (outP rs y i):=by
   refine SlL.toR (.inr ⟨id',?_,?_⟩)
   ·rw[outP_len d,hn]
   ·rw[o'];unfold outP;simp only[List.flatMap_append]
  refine hR _ _ ⟨e2,fun z hz=>?_,?_⟩ fn
  ·obtain⟨x,hx,⟨e1,_⟩,e2⟩:=outP_mem hz
   rw[e1,e2]
   exact⟨(d.rt0.a x hx).1.fr0 fn,(d.rt0.a x hx).2⟩
  ·rw[outP_len d];omega
theorem F14_rep{h0 h:AH}{id:Nat}(d:FD W h0 h xr rs y i vr)(hid:h0.next<=id)(hv:vr<id)(ho:h.obj id=some (mkO ((rs.take i).flatMap encRA) 6 42))
  (hR:∀xo h',RT h' xo (outP rs y i)->Fr h0 h' (fun _=>False)->QR [xo,B true] h'):F14.n16 W QR QN QE QP xr (I i) (.ptr vr 0) (.sl id 0 i) (I (i+1+y.1.rows.toNat:Nat)) (I 0) h:=by
 have h1:=d.lt;have h2:=d.row;have h3:=d.len;have h4:=d.num
 have hm:=mul_b (n:=y.1.num.toNat) (m:=y.1.rows.toNat) (by omega) (by omega)
 have hseg:((rs.drop (i+1)).take y.1.rows.toNat).length=y.1.rows.toNat:=seg_len (by omega)
 unfold F14.n16
 refine vLoop_of (ι:=Nat×Nat) (fun k v h'=>v=[xr,I i,.ptr vr 0,.sl k.2 0 (i+k.1*y.1.rows.toNat),I (i+1+y.1.rows.toNat:Nat),I k.1]/\k.1<=y.1.num.toNat/\h0.next<=k.2/\vr<k.2 /\
  h'.obj k.2=some (mkO ((rs.take i++(List.replicate k.1 ((rs.drop (i+1)).take y.1.rows.toNat)).flatten).flatMap encRA) 6 42)/\FD W h0 h' xr rs y i vr) (fun k=>y.1.num.toNat-k.1) (0,id) ⟨by simp,by omega,hid,hv,by simpa using ho,d⟩ ?_
 rintro K ⟨k,idk⟩ v h' ⟨rfl,hkl,hidk,hvk,ho',d'⟩ step
 simp only at hkl hidk hvk ho'
 have hkm:=Nat.mul_le_mul_right y.1.rows.toNat hkl
 have w1:IntKind.i64.wrap ((i:Int)+1)=((i+1:Nat):Int):=by rw[wrap_in (by omega) (by omega)];simp
 have w2:IntKind.i64.wrap ((k:Int)+1)=((k+1:Nat):Int):=by rw[wrap_in (by omega) (by omega)];simp
 simp only[F14.g3_,zN,zO,F14.n15,pFld_ptr,lLd_f,d'.ov,ldk_mk,zG,encRA,zA,zB,cellK_some,pBin_lss]
 by_cases hlt:(k:Int)<y.1.num
 ·simp only[zL hlt,F14.n14,aIf_b,zD,zF,zC,zI,F14.n13,pBin_add,w1]
  refine seg_ok (lo:=i+1) (hi:=i+1+y.1.rows.toNat) d'.rt.r d'.ne encRA_len (by omega) (by omega) (by omega) rfl rfl fun v hv=>?_
  rw[show i+1+y.1.rows.toNat-(i+1)=y.1.rows.toNat by omega]at hv
  refine app_seg ho' ?_ hv ?_ (by omega) (by decide) (d.W _ hidk) fun id' h2 o' hid' f'=>?_
  ·rw[flat_len encRA_len,List.length_append,rep_len,hseg,yA,Nat.min_eq_left (by omega)]
  ·rw[flat_len encRA_len,hseg]
  ·simp only[F14.n12,pBin_add,w2]
   have hvn:=h'.lt _ _ d'.ov
   have hidn:h0.next<=id'/\vr<id':=by
    rcases hid' with e |e
    ·rw[e];exact⟨hidk,hvk⟩
    ·exact⟨zR d'.f.next e,by omega⟩
   refine step (k+1,id') _ _ (by show _<_;omega) ⟨?_,by show k+1<=_;omega,hidn.1,hidn.2,?_,d'.fr f' fun j hj=>by subst hj;exact⟨hidk,by omega⟩⟩
   ·simp only[Nat.succ_mul]
    rw[Nat.add_assoc]
   ·rw[o',List.replicate_succ',List.flatten_append,<-List.append_assoc]
    simp only[List.flatMap_append,List.flatten_cons,List.flatten_nil,List.append_nil]
 ·have hk:k=y.1.num.toNat:=by omega
  subst hk
  have hrn:(y.1.rows.toNat:Int)=y.1.rows:=by omega
  have hpn:((y.1.num.toNat*y.1.rows.toNat:Nat):Int)=y.1.num*y.1.rows:=by rw[Int.natCast_mul,hrn,Int.toNat_of_nonneg h4.1]
  have hsub:(y.1.num-1)*y.1.rows=y.1.num*y.1.rows-y.1.rows:=by rw[Int.sub_mul,Int.one_mul]
  have w3:IntKind.i64.wrap (y.1.num-1)=y.1.num-1:=wrap_in (by omega) (by omega)
  have w4:IntKind.i64.wrap ((y.1.num-1)*y.1.rows)=(y.1.num-1)*y.1.rows:=wrap_in (by omega) (by omega)
  have w5:IntKind.i64.wrap ((y.1.num-1)*y.1.rows-1)=(y.1.num-1)*y.1.rows-1:=wrap_in (by omega) (by omega)
  have hA:(rs.take i).length=i:=by rw[yA];omega
  have hL:(rs.take i++(List.replicate y.1.num.toNat ((rs.drop (i+1)).take y.1.rows.toNat)).flatten).length=i+y.1.num.toNat*y.1.rows.toNat:=by rw[List.length_append,hA,rep_len,hseg]
  simp only[zK hlt,F14.n14,aIf_b,zE,zD,zC,zH,zV,F14.n11,zN,zO,pFld_ptr,lLd_f,d'.ov,ldk_mk,zG,encRA,zA,zB,cellK_some,pBin_sub,pBin_mul,w3,w4,w5,F14.n10]
  have:=F14_adj (W:=W) (QR:=QR) (QN:=QN) (QE:=QE) (QP:=QP) (xr:=xr) (e:=i+1+y.1.rows.toNat) (δ:=(y.1.num-1)*y.1.rows-1) ho' (d.W _ hidk) (by omega) (fun z hz=>by have:=d.all z (List.mem_of_mem_take hz);omega) ⟨by omega,by omega⟩ (fun h2 o2 f2=>by
   rw[hL]
   exact F14_end (d'.fr f2 fun j hj=>by subst hj;exact⟨hidk,by omega⟩) hidk o2 rfl hR)
  rw[hL,hA]at this
  exact this
end
end
section
open Go.Ab
attribute [-simp] eAlloc_d eStore_f
section
variable {W:Nat->Prop} {QR QN:VK} {QE:Nat->VK} {QP:AV->AH->Prop} {xr:AV} {rs:List (Row×AV)} {y:Row×AV} {i vr:Nat}
theorem F14_found{h0 h:AH}(d:FD W h0 h xr rs y i vr)(hR:∀xo h',RT h' xo (outP rs y i)->Fr h0 h' (fun _=>False)->QR [xo,B true] h'):F14.n19 W QR QN QE QP xr (I i) (.ptr vr 0) h:=by
 have hi:=d.lt;have h2:=d.row;have h3:=d.len
 have hvn:=h.lt _ _ d.ov
 unfold F14.n19
 refine bsl_0 fun id h1 o1 hid f1=>?_
 have d1:=d.fr f1 (fun _ h=>h.elim)
 refine seg_ok (lo:=0) (hi:=i) d1.rt.r d.ne encRA_len (by omega) (by omega) (by omega) rfl rfl fun v hv=>?_
 rw[Nat.sub_zero,List.drop_zero]at hv
 refine app_seg (n:=0) o1 (by simp) hv ?_ (by omega) (by decide) (d.W _ (zR d.f.next hid)) fun id' h2' o2 hid' f2=>?_
 ·rw[flat_len encRA_len,yA,Nat.min_eq_left (by omega)]
 have hidn:h0.next<=id'/\vr<id':=by
  have a1:=d.f.next
  have a2:=f1.next
  rcases hid' with e |e
  ·subst e;exact⟨by omega,by omega⟩
  ·exact⟨by omega,by omega⟩
 have d2:=d1.fr f2 fun j hj=>by subst hj;exact⟨zR d.f.next hid,by omega⟩
 have w1:IntKind.i64.wrap ((i:Int)+1)=((i+1:Nat):Int):=by rw[wrap_in (by omega) (by omega)];simp
 have w2:IntKind.i64.wrap (((i+1:Nat):Int)+y.1.rows)=((i+1+y.1.rows.toNat:Nat):Int):=by rw[wrap_in (by omega) (by omega)];omega
 rw[List.nil_append]at o2
 simp only[F14.n18,pBin_add,w1,pFld_ptr,lLd_f,d2.ov,ldk_mk,zG,encRA,zA,zB,cellK_some,w2,F14.n17]
 exact F14_rep d2 hidn.1 hidn.2 o2 hR
end
section
variable {h:AH} {M:Nat->Prop} {R:AE->AH->Prop} {xr:AV} {rs:List (Row×AV)}
theorem unrolled_ok(rt:RT h xr rs)(hs:Seg (rs.map (·.1)))(hk:HK (rs.map (·.1)))(hl:rs.length<=20000)(hN:∀h',unrollP (rs.map (·.1))=none->Fr h h' (fun _=>False)->R (.ret (.tup [nilS,B false])) h')
  (hS:∀xo ro h',unrollP (rs.map (·.1))=some (ro.map (·.1))->RT h' xo ro->(∀z∈ro,∃x∈rs,z.1.num=x.1.num)->Fr h h' (fun _=>False)->R (.ret (.tup [xo,B true])) h'):ACalls Try.prog 14 [xr] h M R:=by
 apply F14.callsN
 unfold F14.n32 F14.n31 F14.n30
 refine vLoop_of (ι:=Nat) (fun i v h'=>v=[xr,I i]/\i<=rs.length/\findGo ((rs.map (·.1)).drop i) i=findGo (rs.map (·.1)) 0/\Fr h h' (fun _=>False)) (fun i=>rs.length-i) 0 ⟨rfl,by omega,rfl,Fr.refl⟩ ?_
 rintro K i v h' ⟨rfl,hi,hf,f1⟩ step
 have rt1:=rt.fr0 f1
 simp only[F14.g1_,zN,zO,F14.n29,rt1.r.len.1,rt1.r.len.2,zH,pBin_lss]
 by_cases hlt:i<rs.length
 ·have hli:(i:Int)<rs.length:=by omega
  have g0:rs[i]?=some rs[i]:=zJ hlt
  have gL:(rs.map (·.1))[i]?=some rs[i].1:=by rw[List.getElem?_map,g0];rfl
  have hrow:=Seg.at_ _ rfl hs gL
  rw[zZ]at hrow
  have hdrop:(rs.map (·.1)).drop i=rs[i].1::(rs.map (·.1)).drop (i+1):=by
   rw[List.drop_eq_getElem_cons (by rw[zZ];exact hlt)];simp
  have hone:=rt1.one g0
  have hall:∀z∈rs,0<=z.1.rows/\z.1.rows<=20000:=fun z hz=>by
   obtain⟨j,hj⟩:=List.mem_iff_getElem?.1 hz
   have:=Seg.at_ _ rfl hs (i:=j) (r:=z.1) (by rw[List.getElem?_map,hj];rfl)
   rw[zZ]at this
   omega
  generalize rs[i]=y at *
  simp only[zL hli,F14.n28,aIf_b,zD,zF,zC,zI,F14.n27]
  refine rng_at rt1.r encRA_len g0 fun _=>?_
  refine new_var (cs:=encRA y) hone rfl rfl rfl (fun id hid=>.inr (zR f1.next hid)) fun vr h2 f2 _ ov=>?_
  have f02:=f1.tr0 f2
  have w1:IntKind.i64.wrap ((i:Int)+1)=((i+1:Nat):Int):=by rw[wrap_in (by omega) (by omega)];simp
  have next:y.1.kind≠sGate->¬(y.1.kind=sRepeat/\y.1.num<=20)->K [xr,I ((i+1:Nat):Int)] h2:=fun k1 k2=>by
   refine step (i+1) _ _ (by omega) ⟨rfl,by omega,?_,f02⟩
   rw[<-hf,hdrop,findGo_cons,zW k1,zW k2]
  have e1:(⟨#[103,97,116,101]⟩:ByteArray)=sGate:=rfl
  have e2:(⟨#[114,101,112,101,97,116]⟩:ByteArray)=sRepeat:=rfl
  simp only[F14.n26,pFld_ptr,lLd_f,ov,ldk_mk,zG,encRA,zA,zB,cellK_some,pBin_seql,e1]
  by_cases k1:y.1.kind=sGate
  ·have w2:IntKind.i64.wrap ((i:Int)+y.1.rows)=((i+y.1.rows.toNat:Nat):Int):=by rw[wrap_in (by omega) (by omega)];omega
   have w3:IntKind.i64.wrap (((i+y.1.rows.toNat:Nat):Int)+1)=((i+1+y.1.rows.toNat:Nat):Int):=by rw[wrap_in (by omega) (by omega)];omega
   simp only[zL k1,F14.n25,aIf_b,zD,zF,zC,zI,F14.n24,pFld_ptr,lLd_f,ov,ldk_mk,zG,encRA,zA,zB,cellK_some,pBin_add,w2,F14.n2,w3]
   refine step (i+1+y.1.rows.toNat) _ _ (by omega) ⟨rfl,by omega,?_,f02⟩
   rw[<-hf,hdrop,findGo_cons,zX k1,List.drop_drop]
  simp only[zK k1,F14.n25,aIf_b,zE,zD,zC,zH,F14.n23,pFld_ptr,lLd_f,ov,ldk_mk,zG,encRA,zA,zB,cellK_some,pBin_sneq,e2]
  by_cases k2:y.1.kind=sRepeat
  ·simp only[zL k2,zS,F14.n22,aIg_b,zT,zD,zE,zC,zI,pFld_ptr,lLd_f,ov,ldk_mk,zG,encRA,zA,zB,cellK_some,pBin_gtr,gt_iff_lt,F14.n21,pPick_b,if_false]
   by_cases k3:(20:Int)<y.1.num
   ·simp only[zL k3,F14.n20,aIf_b,zD,zF,zC,zI,F14.n2,pBin_add,w1]
    exact next k1 (fun h=>by omega)
   ·simp only[zK k3,F14.n20,aIf_b,zE,zD,zC,zH]
    have hfi:findGo (rs.map (·.1)) 0=some i:=by rw[<-hf,hdrop,findGo_cons,zW k1,zX ⟨k2,by omega⟩]
    obtain⟨A,r,body,C,fd⟩:=findGo_U _ rfl hs hk hfi
    have hAi:A.length=i:=by have:=fd.k;omega
    have hry:r=y.1:=by
     have:(rs.map (·.1))[i]?=some r:=by rw[fd.e,<-hAi,List.getElem?_append_right (zU _)];simp
     rw[gL]at this;exact(Option.some.inj this).symm
    have hnum:0<=y.1.num/\y.1.num<=20:=by rw[<-hry];exact⟨fd.rr.2.2,fd.rr.2.1⟩
    refine F14_found ⟨rt,g0,ov,⟨hrow.1,by omega⟩,hnum,hl,hall,fun id hid=>.inr hid,f02⟩ fun xo h3 r3 f3=>?_
    have hu:unrollP (rs.map (·.1))=some ((outP rs y i).map (·.1)):=by
     unfold unrollP
     rw[hfi]
     simp only
     rw[hdrop]
     simp only[outP,List.map_append,adjP_map,List.map_take,List.map_drop,List.map_flatten,List.map_replicate,List.append_assoc,List.drop_drop]
    have:=hS xo _ h3 hu r3 (fun z hz=>by
     obtain⟨x,hx,⟨_,e⟩,_⟩:=outP_mem hz
     exact⟨x,hx,e⟩) f3
    simpa[retV,aResV,tupOf] using this
  ·simp only[zK k2,zT,F14.n22,aIg_b,zF,zD,zC,zH,F14.n21,pPick_b,zV,F14.n20,aIf_b,zI,F14.n2,pBin_add,w1]
   exact next k1 (fun h=>k2 h.1)
 ·have hil:i=rs.length:=by omega
  have hnl:¬((i:Int)<rs.length):=by omega
  have hnone:unrollP (rs.map (·.1))=none:=by
   unfold unrollP
   rw[<-hf,hil,List.drop_of_length_le (by rw[zZ];omega),findGo_nil]
  simp only[zK hnl,F14.n28,aIf_b,zE,zD,zC,zH,zV,F14.n1]
  have:=hN h' hnone f1
  simpa[retV,aResV,tupOf] using this
end
end
section
open Go.Ab
attribute [-simp] eAlloc_d eStore_f
theorem flatP_look{L:List Row}(h:(flatP L).err=0):∃b,lookP 0 none 0 L ⟨[],[],[]⟩=.ok b:=by
 cases hl:lookP 0 none 0 L ⟨[],[],[]⟩ with
 |ok b=>exact⟨b,rfl⟩
 |error x=>
  exfalso
  unfold flatP at h
  rw[hl]at h
  exact lookP_err _ rfl hl h
section
variable {h:AH} {M:Nat->Prop} {R:AE->AH->Prop} {xr:AV} {rs:List (Row×AV)}
theorem law_unrolls(rt:RT h xr rs)(hn:∀y∈rs,y.1.num<=9223372036854775807)(hR:∀h',Fr h h' (fun _=>False)->R (.ret (B true)) h'):ACalls Try.prog 5 [xr] h M R:=by
 apply F5.callsN
 unfold F5.n20 F5.n19
 refine⟨fun _=>False,fun _ h=>h.elim,alive_ok fun h1 f1=>?_⟩
 have rt1:=rt.fr0 f1
 simp only[pUn_not,zS,F5.n18,aIf_b,zE,zD,zC,zH,F5.n16]
 refine⟨fun _=>False,fun _ h=>h.elim,?_⟩
 apply F8.callsN
 simp only[F8.n2,F8.n1,rt1.r.len.1,rt1.r.len.2,zH,pBin_gtr,gt_iff_lt]
 by_cases hv:(20000:Int)<rs.length
 ·have:=hR h1 f1
  simpa[hv,F5.n15,F5.n14] using this
 ·have go:F5.n13 (fun id=>M id\/h.next<=id) (retV Try.prog [.tmp 2] R) (retV Try.prog [.tmp 2] R) (fun _ _ _=>False) (fun v h=>R (.pan v) h) xr h1:=by
   unfold F5.n13
   refine⟨fun _=>False,fun _ h=>h.elim,flat_ok rt1 hn fun xo1 yl1 h2 fa1 f2=>?_⟩
   have hxo1:=fa1.o.tab.one
   have f02:=f1.tr0 f2
   have hfr:=flatP_FR (S:=fun _=>True) trivial (L:=rs.map (·.1)) (fun _ _=>trivial)
   have hlook:=flatP_look (L:=rs.map (·.1))
   have hUU:∀b L',lookP 0 none 0 (rs.map (·.1)) ⟨[],[],[]⟩=.ok b->unrollP (rs.map (·.1))=some L'->flatP L'=flatP (rs.map (·.1)):=fun b L' hb hu=>by
    have hs:=(lookP_ok _ rfl (fun r hr=>by
     obtain⟨z,hz,rfl⟩:=List.mem_map.1 hr
     exact(rt.a z hz).2) bkF0.i hb).2.2
    exact flatP_U (unrollP_U hs (lookP_HK _ rfl hb) hu) hs hb
   simp only[pExt_tup,zA,zB,cellK_some]
   refine new_var (z:=[.int .i64 0,.int .i64 0,.slice none 0 0]) (sz:=3) (ty:=27) (cs:=[I (flatP (rs.map (·.1))).q,I (flatP (rs.map (·.1))).b,xo1]) (by show(true&&(true&&(oneA xo1&&true)))=true;rw[hxo1.1];rfl) rfl rfl rfl (fun id hid=>Or.inr (zR f02.next hid)) fun v1 h3 f3 _ o1=>?_
   have f03:=f02.tr0 f3
   generalize hF:flatP (rs.map (·.1))=F at *
   rcases hfr with⟨e1,e2,e3,e4,_⟩ |⟨e1,e2,e3⟩
   ·have h0:(F.err != 0)=true:=by simpa using e1
    simp only[F5.n12,pBin_neq,h0,F5.n11,aIf_b,zD,zF,zC,zI,F5.n10]
    refine var_ld o1 rfl fun _=>⟨_,bld27,?_⟩
    have hy:yl1=[]:=by
     have:=fa1.e
     rw[e4]at this
     simpa using this
    rw[e2,e3]
    subst hy
    refine⟨fun _=>False,fun _ h=>h.elim,same_true (yb:=[]) (fa1.o.fr0 f3) ⟨SlL.toR .nil,fun _ h=>by cases h⟩ rfl fa1.n fa1.g fun h4 f4=>?_⟩
    simpa using hR h4 (f03.tr0 f4)
   ·have h0:(F.err != 0)=false:=by simpa using e1
    obtain⟨b,hb⟩:=hlook e1
    have hs:=(lookP_ok _ rfl (fun r hr=>by
     obtain⟨z,hz,rfl⟩:=List.mem_map.1 hr
     exact(rt.a z hz).2) bkF0.i hb).2.2
    simp only[F5.n12,pBin_neq,h0,F5.n11,aIf_b,zE,zD,zC,zH,F5.n9]
    refine⟨fun _=>False,fun _ h=>h.elim,unrolled_ok (rt.fr0 f03) hs (lookP_HK _ rfl hb) (by omega) (fun h4 hu f4=>?_) fun xm ro h4 hu rt4 hnum f4=>?_⟩
    ·simp only[pExt_tup,zA,zB,cellK_some,F5.n8,pUn_not,zT,F5.n7,aIf_b,zD,zF,zC,zI,F5.n6]
     simpa using hR h4 (f03.tr0 f4)
    ·have f04:=f03.tr0 f4
     have hn4:∀y∈ro,y.1.num<=9223372036854775807:=fun z hz=>by
      obtain⟨x,hx,e⟩:=hnum z hz
      rw[e];exact hn x hx
     simp only[pExt_tup,zA,zB,cellK_some,F5.n8,pUn_not,zS,F5.n7,aIf_b,zE,zD,zC,zH,F5.n5]
     refine⟨fun _=>False,fun _ h=>h.elim,flat_ok rt4 hn4 fun xo2 yl2 h5 fa2 f5=>?_⟩
     rw[hUU b _ hb hu]at fa2 ⊢
     have hxo2:=fa2.o.tab.one
     have f05:=f04.tr0 f5
     simp only[pExt_tup,zA,zB,cellK_some]
     refine new_var (z:=[.int .i64 0,.int .i64 0,.slice none 0 0]) (sz:=3) (ty:=27) (cs:=[I F.q,I F.b,xo2]) (by show(true&&(true&&(oneA xo2&&true)))=true;rw[hxo2.1];rfl) rfl rfl rfl (fun id hid=>Or.inr (zR f05.next hid)) fun v2 h6 f6 _ o2=>?_
     have f36:=(f4.tr0 f5).tr0 f6
     have h00:(F.err==0)=true:=by simpa using e1
     simp only[F5.n4,pBin_eql,h00,F5.n3,aIg_b,zS,zD,zF,zC,zI]
     refine var_ld (f36.ob0 o1) rfl fun _=>?_
     refine var_ld o2 rfl fun _=>?_
     refine⟨fun _=>False,fun _ h=>h.elim,same_true (fa1.o.fr0 (f3.tr0 f36)) (fa2.o.fr0 f6) (by rw[fa1.e,fa2.e]) fa1.n fa1.g fun h7 f7=>?_⟩
     simp only[F5.n2,pPick_b,zV,F5.n1]
     simpa using hR h7 ((f05.tr0 f6).tr0 f7)
  simpa[hv,F5.n15,-F5.n13] using go
end
end
section
open Go.Ab Go.Deep Go.ChangeShapes Go.WideShapes
def argsW(l:List Arg):Nat:=(l.map fun g=>g.name.size+8).sum
def rowW(r:Row):Nat:=r.kind.size+r.name.size+8+argsW r.args
def rowsW(l:List Row):Nat:=(l.map rowW).sum
instance:Inhabited Arg:=⟨⟨⟨#[]⟩,0⟩⟩
instance:Inhabited Row:=⟨⟨⟨#[]⟩,⟨#[]⟩,[],0,0,0⟩⟩
theorem bulk_map{H:Type}{R:List Nat}{f:Nat->Nat}{D:Nat->DataW H}(h:∀i∈R,f i<=8*Rows.uptoBulk (D i)):(R.map f).sum<=8*Rows.uptoBulkAll (R.map D):=by
 induction R with
 |nil=>simp
 |cons a R ih=>
  have h1:=h a (by simp)
  have h2:=ih fun i hi=>h i (by simp[hi])
  simp only[List.map_cons,List.sum_cons,Rows.uptoBulkAll]
  omega
def AtC(E:Env)(W:World)(b o:Nat)(cs:List AV):Prop:=∃arr T fz,W.heap[b]?=some (.cells arr T fz)/\CRb E o cs arr
theorem cell_arr{W:World}{b o:Nat}{v:Value}(h:W.cell? ⟨b,o,none⟩=some v):∃arr T fz,W.heap[b]?=some (.cells arr T fz)/\arr[o]?=some v:=by
 unfold World.cell? at h
 split at h
 ·rename_i c T fz hc
  simp at h
  exact⟨c,T,fz,hc,h⟩
 ·cases h
theorem atC_of{α:Type}{E:Env}{W:World}{b o sz:Nat}{f:α->List AV}{l:List α}(hf:∀y,(f y).length=sz)(hs:0<sz)(hl:l≠[])
  (h:∀q y,l[q]?=some y->∀j,j<sz->∃v c,W.cell? ⟨b,o+(q*sz+j),none⟩=some v/\(f y)[j]?=some c/\VR E c v/\v.oneCell'=true):AtC E W b o (l.flatMap f):=by
 have hpos:0<l.length:=List.length_pos_iff.2 hl
 obtain⟨v0,_,h0,_⟩:=h 0 l[0] (zJ hpos) 0 hs
 obtain⟨arr,T,fz,hb,_⟩:=cell_arr h0
 refine⟨arr,T,fz,hb,fun i c hi=>?_⟩
 have hil:i<l.length*sz:=by rw[<-flat_len hf l];exact(zM.1 hi).1
 have hq:i/sz<l.length:=Nat.div_lt_of_lt_mul (by rw[Nat.mul_comm];exact hil)
 have hj:i%sz<sz:=Nat.mod_lt _ hs
 have he:i/sz*sz+i%sz=i:=by rw[Nat.mul_comm];exact Nat.div_add_mod i sz
 obtain⟨v,c',h1,h2,h3,h4⟩:=h (i/sz) l[i/sz] (zJ hq) (i%sz) hj
 have hg:=flat_get hf l (i/sz) (i%sz) hj
 rw[he,zJ hq]at hg
 rw[hg]at hi
 simp only[Option.bind_some]at hi
 rw[h2]at hi
 cases hi
 obtain⟨arr',T',fz',hb',ha⟩:=cell_arr h1
 rw[hb]at hb';cases hb'
 rw[he]at ha
 exact⟨v,ha,h3,h4⟩
section
variable {H:Type} {enc:TypeId×Value->H} {W:World}
def ArgsIn(W:World)(v:Value)(l:List Arg):Prop:=
 (∃a c,v=.slice a 0 c/\l=[])\/∃b o cap,v=.slice (some ⟨b,o,none⟩) l.length cap/\l.length<=cap/\cap<=maxLen/\l≠[]/\∀E,AtC E W b o (l.flatMap Arg.enc)
theorem args_open{fuel:Nat}{cs:List Value}{x:DataW H×List MemPlace}(h:DataW.trod enc Try.prog W 0 (fun _=>true) true fuel 40 cs=some x) :
  ∃v l,cs=[v]/\ArgsIn W v l/\(∃a len cap,v=.slice a len cap)/\argsW l+1<=8*Rows.uptoBulk x.1:=by
 rcases open_slice_pairs Try.underlying40 Try.underlying44 (by kernel_rfl) rfl rfl (by kernel_rfl) (by kernel_rfl) h with⟨rfl,rfl⟩ |⟨a,len,cap,m,n,V0,V1,D0,D1,P0,P1,rfl,hb,hl,hm,hmm,rfl,hx⟩
 ·exact⟨_,[],rfl,.inl ⟨none,0,rfl,rfl⟩,⟨_,_,_,rfl⟩,by simp[argsW,Rows.uptoBulk]⟩
 ·simp only[zV]at hmm
  subst hmm
  have each:∀i,i<len->∃g:Arg,V0 i=.string g.name/\V1 i=.int .i64 g.index/\g.name.size+8<=8*Rows.uptoBulk (DataW.agg [D0 i,D1 i]):=by
   intro i hi
   obtain⟨_,_,t0,t1⟩:=hx i (by omega)
   obtain⟨s,h1,h2,_⟩:=DataW.trod_string Try.underlying9 t0
   obtain⟨z,h3,h4,_⟩:=DataW.trod_int Try.underlying3 t1
   simp only[Prod.mk.injEq]at h2 h4
   refine⟨⟨s,z⟩,by simpa using h1,by simpa using h3,?_⟩
   rw[h2.1,h4.1]
   simp only[Rows.uptoBulk,Rows.uptoBulkAll]
   have:s.data.toList.length=s.size:=rfl
   omega
  obtain⟨g,hg⟩:=choose_lt (α:=Arg) each
  have hsum:argsW ((List.range len).map g)<=8*Rows.uptoBulkAll ((List.range len).map fun i=>DataW.agg [D0 i,D1 i]):=by
   unfold argsW
   rw[List.map_map]
   exact bulk_map fun i hi=>(hg i (List.mem_range.1 hi)).2.2
  have hbk:argsW ((List.range len).map g)+1<=8*Rows.uptoBulk (DataW.slice ((List.range len).map fun i=>DataW.agg [D0 i,D1 i]) ((List.range (m-len)).map fun j=>DataW.agg [D0 (len+j),D1 (len+j)])):=by
   simp only[Rows.uptoBulk];omega
  refine⟨_,(List.range len).map g,rfl,?_,⟨_,_,_,rfl⟩,hbk⟩
  by_cases h0:len=0
  ·subst h0
   exact .inl ⟨_,_,rfl,rfl⟩
  ·right
   obtain⟨b,o,spot⟩:=a
   have c0:=(hx 0 (by omega)).1
   have hspot:spot=none:=by simpa[Addr.add] using World.cell?_spot c0
   subst hspot
   refine⟨b,o,m,by rw[zZ,List.length_range],by rw[zZ,List.length_range];exact hl,hm,fun e=>h0 (by have:=congrArg List.length e;simpa using this),fun E=>?_⟩
   refine atC_of (sz:=2) Arg.enc_len (by omega) (fun e=>h0 (by have:=congrArg List.length e;simpa using this)) fun q y hq j hj=>?_
   rw[List.getElem?_map]at hq
   obtain⟨q',hq',rfl⟩:=Option.map_eq_some_iff.1 hq
   have hql:q<len:=by have:=(zM.1 hq').1;simpa using this
   have hqe:q'=q:=by rw[List.getElem?_range hql]at hq';exact(Option.some.inj hq').symm
   subst hqe
   obtain⟨a0,a1,_,_⟩:=hx q' (by omega)
   rw[add_plain]at a0
   obtain⟨g1,g2,_⟩:=hg q' hql
   match j,hj with
   |0,_=>exact⟨_,_,by rw[Nat.add_zero];rw[g1]at a0;exact a0,rfl,.sc _,rfl⟩
   |1,_=>exact⟨_,_,by rw[add_plain]at a1;rw[g2]at a1;exact a1,rfl,.sc _,rfl⟩
end
end
section
open Go.Ab Go.Deep Go.ChangeShapes Go.WideShapes
section
variable {H:Type} {enc:TypeId×Value->H} {W:World}
def cellsOfRow(y:Row×Value):List Value:=[.string y.1.kind,.string y.1.name,y.2,.int .i64 y.1.num,.int .i64 y.1.rows,.int .i64 y.1.place]
def RowsIn(W:World)(v:Value)(l:List (Row×Value)):Prop:=
 (∀y∈l,ArgsIn W y.2 y.1.args/\∃a len cap,y.2=.slice a len cap) /\
 ((∃a c,v=.slice a 0 c/\l=[])\/∃b o cap,v=.slice (some ⟨b,o,none⟩) l.length cap/\l.length<=cap/\cap<=maxLen/\l≠[]/\∀q y,l[q]?=some y->∀j v,(cellsOfRow y)[j]?=some v->W.cell? ⟨b,o+(q*6+j),none⟩=some v)
theorem row_open{fuel:Nat}{cs:List Value}{x:DataW H×List MemPlace}(h:DataW.trod enc Try.prog W 0 (fun _=>true) true fuel 42 cs=some x) :
  ∃y:Row×Value,cs=cellsOfRow y/\ArgsIn W y.2 y.1.args/\(∃a len cap,y.2=.slice a len cap)/\rowW y.1<=8*Rows.uptoBulk x.1/\y.1.num<=9223372036854775807:=by
 obtain⟨xs,n,_,rfl,hl,hxl,hf⟩:=DataW.trod_struct Try.underlying42 h
 rw[show Try.prog.cellsOf 42=6 by kernel_rfl]at hl
 match cs,hl,xs,hxl with
 |[c0,c1,c2,c3,c4,c5],_,[y0,y1,y2,y3,y4,y5],_=>
  have t0:=hf 0 _ rfl
  have t1:=hf 1 _ rfl
  have t2:=hf 2 _ rfl
  have t3:=hf 3 _ rfl
  have t4:=hf 4 _ rfl
  have t5:=hf 5 _ rfl
  have k9:Try.prog.cellsOf 9=1:=by kernel_rfl
  have k40:Try.prog.cellsOf 40=1:=by kernel_rfl
  have k3:Try.prog.cellsOf 3=1:=by kernel_rfl
  simp[k9,k40,k3]at t0 t1 t2 t3 t4 t5
  obtain⟨s0,h0,e0,_⟩:=DataW.trod_string Try.underlying9 t0
  obtain⟨s1,h1,e1,_⟩:=DataW.trod_string Try.underlying9 t1
  obtain⟨v,l,h2,ha,hs,hb⟩:=args_open t2
  obtain⟨z3,h3,e3,wf3⟩:=DataW.trod_int Try.underlying3 t3
  obtain⟨z4,h4,e4,_⟩:=DataW.trod_int Try.underlying3 t4
  obtain⟨z5,h5,e5,_⟩:=DataW.trod_int Try.underlying3 t5
  simp at h0 h1 h2 h3 h4 h5
  subst h0 h1 h2 h3 h4 h5
  refine⟨(⟨s0,s1,l,z3,z4,z5⟩,c2),rfl,ha,hs,?_,?_⟩
  rotate_left
  ·simp[Lit.wf]at wf3
   have hmx:IntKind.i64.max=9223372036854775807:=by decide
   simp only
   omega
  simp only[List.map_cons,List.map_nil,Rows.uptoBulk,Rows.uptoBulkAll]
  rw[e0,e1,e3,e4,e5]
  simp only[Rows.uptoBulk,rowW]
  have q0:s0.data.toList.length=s0.size:=rfl
  have q1:s1.data.toList.length=s1.size:=rfl
  omega
theorem rows_open{fuel:Nat}{cs:List Value}{x:DataW H×List MemPlace}(h:DataW.trod enc Try.prog W 0 (fun _=>true) true fuel 22 cs=some x) :
  ∃v l,cs=[v]/\RowsIn W v l/\rowsW (l.map (·.1))<=8*Rows.uptoBulk x.1/\∀y∈l,y.1.num<=9223372036854775807:=by
 rcases open_slice Try.underlying22 h with⟨rfl,rfl⟩ |⟨a,len,cap,m,n,D,Pl,rfl,hb,hl,hm,hmm,rfl,hx⟩
 ·exact⟨_,[],rfl,⟨by simp,.inl ⟨none,0,rfl,rfl⟩⟩,by simp[rowsW],by simp⟩
 ·simp only[zV]at hmm
  subst hmm
  rw[show Try.prog.cellsOf 42=6 by kernel_rfl]at hx
  have each:∀i,i<len->∃y:Row×Value,(∀j v,(cellsOfRow y)[j]?=some v->W.cell? ((a.add (i*6)).add j)=some v)/\ArgsIn W y.2 y.1.args/\(∃a len cap,y.2=.slice a len cap)/\rowW y.1<=8*Rows.uptoBulk (D i)/\y.1.num<=9223372036854775807:=by
   intro i hi
   obtain⟨cs',h1,h2⟩:=hx i (by omega)
   obtain⟨_,hlen,hcell⟩:=World.cells?_some h1
   obtain⟨y,rfl,h3,h4,h5,h6⟩:=row_open h2
   refine⟨y,fun j v hj=>?_,h3,h4,h5,h6⟩
   have:j<6:=by have:=(zM.1 hj).1;simpa[cellsOfRow] using this
   rw[hcell j this,hj]
  obtain⟨g,hg⟩:=choose_lt (α:=Row×Value) each
  have hsum:rowsW (((List.range len).map g).map (·.1))<=8*Rows.uptoBulkAll ((List.range len).map D):=by
   unfold rowsW
   rw[List.map_map,List.map_map]
   exact bulk_map fun i hi=>(hg i (List.mem_range.1 hi)).2.2.2.1
  have hbk:rowsW (((List.range len).map g).map (·.1))<=8*Rows.uptoBulk (DataW.slice ((List.range len).map D) ((List.range (m-len)).map fun j=>D (len+j))):=by
   simp only[Rows.uptoBulk];omega
  refine⟨_,(List.range len).map g,rfl,⟨fun y hy=>?_,?_⟩,hbk,fun y hy=>by obtain⟨i,hi,rfl⟩:=List.mem_map.1 hy;exact(hg i (List.mem_range.1 hi)).2.2.2.2⟩
  ·obtain⟨i,hi,rfl⟩:=List.mem_map.1 hy
   exact⟨(hg i (List.mem_range.1 hi)).2.1,(hg i (List.mem_range.1 hi)).2.2.1⟩
  by_cases h0:len=0
  ·subst h0
   exact .inl ⟨_,_,rfl,rfl⟩
  ·right
   obtain⟨b,o,spot⟩:=a
   have c0:=(hg 0 (by omega)).1 0 _ rfl
   have hspot:spot=none:=by simpa[Addr.add] using World.cell?_spot c0
   subst hspot
   refine⟨b,o,m,by rw[zZ,List.length_range],by rw[zZ,List.length_range];exact hl,hm,fun e=>h0 (by have:=congrArg List.length e;simpa using this),fun q y hq j v hj=>?_⟩
   rw[List.getElem?_map]at hq
   obtain⟨q',hq',rfl⟩:=Option.map_eq_some_iff.1 hq
   have hql:q<len:=by have:=(zM.1 hq').1;simpa using this
   have hqe:q'=q:=by rw[List.getElem?_range hql]at hq';exact(Option.some.inj hq').symm
   subst hqe
   have:=(hg q' hql).1 j v hj
   rw[add_add,add_plain]at this
   exact this
end
end
section
open Go.Ab Go.Deep
def tyAt(W:World)(b:Nat):TypeId:=match W.heap[b]? with |some (.cells _ T _)=>T |_=>0
theorem tyAt_of{W:World}{b:Nat}{arr:Array Value}{T:TypeId}{fz:Nat×Nat}(h:W.heap[b]?=some (.cells arr T fz)):tyAt W b=T:=by unfold tyAt;rw[h]
def blkOf(v:Value)(sz:Nat):Blk:=match v with |.slice (some a) _ cap=>⟨a.block,cap*sz,sz,a.off⟩ |_=>⟨0,0,0,0⟩
def argAV(i:Nat)(y:Row×Value):AV:=if y.1.args.length=0 then .sc y.2 else .sl (i+2) 0 y.1.args.length
def tabL(l:List (Row×Value)):List (Row×AV):=l.mapIdx fun i y=>(y.1,argAV i y)
def tabAV(v:Value)(l:List (Row×Value)):AV:=if l.length=0 then .sc v else .sl 1 0 l.length
def roRow(W:World)(v:Value)(sz:Nat)(cells:List AV):AO:={ cells:=cells,sz:=sz,ty:=tyAt W (blkOf v sz).b,ro:=true,kind:=.row }
def inObj(W:World)(v:Value)(l:List (Row×Value)):Nat->Option AO
 |0=>none
 |1=>if l.length=0 then none else some (roRow W v 6 ((tabL l).flatMap encRA))
 |i+2=>(l[i]?).bind fun y=>if y.1.args.length=0 then none else some (roRow W y.2 2 (y.1.args.flatMap Arg.enc))
def inE(v:Value)(l:List (Row×Value)):Env
 |0=>none
 |1=>some (blkOf v 6)
 |i+2=>(l[i]?).map fun y=>blkOf y.2 2
def inAH(W:World)(v:Value)(l:List (Row×Value)):AH where
 obj:=inObj W v l
 next:=l.length+2
 lt:=by
  intro id o h
  match id with
  |0=>omega
  |1=>omega
  |i+2=>
   simp only[inObj]at h
   obtain⟨y,hy,_⟩:=Option.bind_eq_some_iff.1 h
   have:=(zM.1 hy).1
   omega
theorem tabL_get{l:List (Row×Value)}{i:Nat}:(tabL l)[i]?=(l[i]?).map fun y=>(y.1,argAV i y):=by
 unfold tabL;simp
theorem tabL_len(l:List (Row×Value)):(tabL l).length=l.length:=by unfold tabL;simp
section
variable {W:World} {v:Value} {l:List (Row×Value)}
theorem argAV_vr(hin:RowsIn W v l){i:Nat}{y:Row×Value}(hy:l[i]?=some y):VR (inE v l) (argAV i y) y.2:=by
 unfold argAV
 split
 ·exact .sc _
 ·rename_i hne
  rcases(hin.1 y (zP hy)).1 with⟨_,_,_,h⟩ |⟨b,o,cap,hv,h1,h2,_,_⟩
  ·exact absurd (by rw[h];rfl) hne
  ·rw[hv]
   exact .sl (B:=⟨b,cap*2,2,o⟩) (by simp only[inE,hy,yB,blkOf,hv]) (.inl rfl) (by simp) h1 h2
theorem tabAV_vr(hin:RowsIn W v l):VR (inE v l) (tabAV v l) v:=by
 unfold tabAV
 split
 ·exact .sc _
 ·rename_i hne
  rcases hin.2 with⟨_,_,_,h⟩ |⟨b,o,cap,hv,h1,h2,_,_⟩
  ·exact absurd (by rw[h];rfl) hne
  ·rw[hv]
   exact .sl (B:=⟨b,cap*6,6,o⟩) rfl (.inl rfl) (by simp) h1 h2
theorem in_rel(hin:RowsIn W v l):Rel (inE v l) (inAH W v l) W:=by
 have ro_all:∀id o,inObj W v l id=some o->o.ro=true:=by
  intro id o h
  match id with
  |0=>cases h
  |1=>
   simp only[inObj]at h
   split at h
   ·cases h
   ·simp only[zQ]at h;rw[<-h];rfl
  |i+2=>
   simp only[inObj]at h
   obtain⟨y,hy,h2⟩:=Option.bind_eq_some_iff.1 h
   split at h2
   ·cases h2
   ·simp only[zQ]at h2;rw[<-h2];rfl
 refine⟨fun id o h=>?_,fun i j oi oj _ _ hi hj _ _ _=>.inr ⟨ro_all i oi hi,ro_all j oj hj⟩,fun id hid=>?_⟩
 ·match id with
  |0=>cases h
  |1=>
   have h:(if l.length=0 then none else some (roRow W v 6 ((tabL l).flatMap encRA)))=some o:=h
   split at h
   ·cases h
   ·rename_i hne
    cases h
    rcases hin.2 with⟨_,_,_,h⟩ |⟨b,o,cap,hv,h1,h2,h3,h4⟩
    ·exact absurd (by rw[h];rfl) hne
    ·have hat:AtC (inE v l) W b o ((tabL l).flatMap encRA):=by
      refine atC_of (sz:=6) encRA_len (by omega) (fun e=>h3 (List.length_eq_zero_iff.1 (by have:=congrArg List.length e;rw[tabL_len]at this;exact this))) fun q y hq j hj=>?_
      rw[tabL_get]at hq
      obtain⟨y',hy',rfl⟩:=Option.map_eq_some_iff.1 hq
      have hc:=h4 q y' hy' j
      match j,hj with
      |0,_=>exact⟨_,_,hc _ rfl,rfl,.sc _,rfl⟩
      |1,_=>exact⟨_,_,hc _ rfl,rfl,.sc _,rfl⟩
      |2,_=>
       refine⟨_,_,hc _ rfl,rfl,argAV_vr hin hy',?_⟩
       obtain⟨a,len,cap,hs⟩:=(hin.1 y' (zP hy')).2
       rw[hs];rfl
      |3,_=>exact⟨_,_,hc _ rfl,rfl,.sc _,rfl⟩
      |4,_=>exact⟨_,_,hc _ rfl,rfl,.sc _,rfl⟩
      |5,_=>exact⟨_,_,hc _ rfl,rfl,.sc _,rfl⟩
     obtain⟨arr,T,fz',hb,hcr⟩:=hat
     have hbk:blkOf v 6=⟨b,cap*6,6,o⟩:=by rw[hv];rfl
     refine⟨blkOf v 6,rfl,⟨arr,fz',?_,(fun hro=>by cases hro),?_,by rw[hbk];rfl,by rw[hbk];exact hcr⟩⟩
     ·show W.heap[(blkOf v 6).b]?=some (.cells arr (tyAt W (blkOf v 6).b) fz')
      rw[hbk,tyAt_of hb];exact hb
     ·show((tabL l).flatMap encRA).length<=(blkOf v 6).n
      rw[hbk,flat_len encRA_len,tabL_len]
      exact Nat.mul_le_mul_right _ h1
  |i+2=>
   have h:((l[i]?).bind fun y=>if y.1.args.length=0 then none else some (roRow W y.2 2 (y.1.args.flatMap Arg.enc)))=some o:=h
   obtain⟨y,hy,h2⟩:=Option.bind_eq_some_iff.1 h
   split at h2
   ·cases h2
   ·rename_i hne
    cases h2
    rcases(hin.1 y (zP hy)).1 with⟨_,_,_,h⟩ |⟨b,o,cap,hv,h1,h2,h3,h4⟩
    ·exact absurd (by rw[h];rfl) hne
    ·obtain⟨arr,T,fz',hb,hcr⟩:=h4 (inE v l)
     have hbk:blkOf y.2 2=⟨b,cap*2,2,o⟩:=by rw[hv];rfl
     refine⟨blkOf y.2 2,by simp only[inE,hy,yB],⟨arr,fz',?_,(fun hro=>by cases hro),?_,by rw[hbk];rfl,by rw[hbk];exact hcr⟩⟩
     ·show W.heap[(blkOf y.2 2).b]?=some (.cells arr (tyAt W (blkOf y.2 2).b) fz')
      rw[hbk,tyAt_of hb];exact hb
     ·show(y.1.args.flatMap Arg.enc).length<=(blkOf y.2 2).n
      rw[hbk,flat_len Arg.enc_len]
      exact Nat.mul_le_mul_right _ h1
 ·match id,hid with
  |i+2,hid=>
   have:l.length<=i:=by have hh:l.length+2<=i+2:=hid;omega
   simp only[inE,List.getElem?_eq_none this,Option.map_none]
theorem in_rows(hin:RowsIn W v l)(hb:∀y∈l,y.1.args.length<=100000000)(hl:l.length<=100000000):RT (inAH W v l) (tabAV v l) (tabL l):=by
 refine⟨?_,fun y hy=>⟨?_,?_⟩,by rw[tabL_len];exact hl⟩
 rotate_left 2
 ·obtain⟨i,hi⟩:=List.mem_iff_getElem?.1 hy
  rw[tabL_get]at hi
  obtain⟨y',hy',rfl⟩:=Option.map_eq_some_iff.1 hi
  exact hb y' (zP hy')
 ·by_cases h0:l.length=0
  ·have:l=[]:=List.length_eq_zero_iff.1 h0
   subst this
   rcases hin.2 with⟨a,c,hv,_⟩ |⟨_,_,_,_,_,_,h,_⟩
   ·exact .inr (.inl ⟨a,c,by rw[hv];rfl,rfl⟩)
   ·exact absurd rfl h
  ·refine .inr (.inr ⟨1,[],true,tyAt W (blkOf v 6).b,?_,fun h=>(by cases h),?_⟩)
   ·unfold tabAV;rw[zW h0,tabL_len]
   ·show(if l.length=0 then none else some (roRow W v 6 ((tabL l).flatMap encRA)))=_
    rw[zW h0,List.append_nil];rfl
 ·obtain⟨i,hi⟩:=List.mem_iff_getElem?.1 hy
  rw[tabL_get]at hi
  obtain⟨y',hy',rfl⟩:=Option.map_eq_some_iff.1 hi
  show SlR Arg.enc 2 44 _ (argAV i y') y'.1.args
  by_cases h0:y'.1.args.length=0
  ·have he:y'.1.args=[]:=List.length_eq_zero_iff.1 h0
   unfold argAV
   rw[zX h0,he]
   rcases(hin.1 y' (zP hy')).1 with⟨a,c,hv,_⟩ |⟨_,_,_,_,_,_,h,_⟩
   ·exact .inr (.inl ⟨a,c,by rw[hv],rfl⟩)
   ·exact absurd he h
  ·refine .inr (.inr ⟨i+2,[],true,tyAt W (blkOf y'.2 2).b,?_,fun h=>(by cases h),?_⟩)
   ·unfold argAV;rw[zW h0]
   ·show((l[i]?).bind fun y=>if y.1.args.length=0 then none else some (roRow W y.2 2 (y.1.args.flatMap Arg.enc)))=_
    rw[hy',Option.bind_some,zW h0,List.append_nil];rfl
end
end
end Go.Proofs.Ytjehibknlmehmaa
namespace Go.Ab
open Go.RowKit
def AH.empty:AH:=⟨fun _=>none,0,fun _ _ h=>by cases h⟩
theorem Rel.empty(w:World):Rel (fun _=>none) AH.empty w:=⟨fun _ _ h=>(by cases h),fun _ _ _ _ _ _ h=>(by cases h),fun _ _=>rfl⟩
theorem Step.below{E E':Env}{h h':AH}{w w':World}(s:Step E h (fun _=>False) w E' h' w'):Below w.heap.size w w':=⟨s.os,s.tape,s.output,s.size,fun b hb=>s.frame b hb fun _ _ _ hm=>hm.elim⟩
end Go.Ab
namespace Go.Proofs.Ytjehibknlmehmaa
section
open Go.ChangeShapes Go.WideShapes Go.ChangeAt Go.RowKit Go.ChangeMaps
section
variable {H:Type} {enc:TypeId×Value->H} {P:Program}
theorem post_of_below{f:Func}{s:ChangeSpec}{apart fresh handsOn again:Bool}{W W':World}{args:Array Value}{v:Value}{ds gs:List (DataW H)}{before pa pv:List MemPlace}
  (hW:DataW.Whole enc P f.params.toList s.vars apart W args.toList ds gs before)
  (hres:∀(b:Nat)(sp:Nat->Bool)(hd:Bool),DataW.TrodAll enc P W' b sp hd f.resultTypes.toList (v.resultList f.resultTypes.size) (s.fn H (ds++gs)).results [])
  (hargs:∀sp:Nat->Bool,(∀p∈before,sp p.block=true)->DataW.TrodAll enc P W' 0 sp true f.params.toList args.toList (s.fn H (ds++gs)).args pa)
  (hvars:∀sp:Nat->Bool,(∀p∈before,sp p.block=true)->DataW.TrodVars enc P W' sp s.vars (s.fn H (ds++gs)).vars pv)
  (hps:before=pa++pv) (hb:Below W.heap.size W W')
  (hok:∀(j:Nat)(t:TypeId)(r:Value),f.resultTypes[j]?=some t->(v.resultList f.resultTypes.size)[j]?=some r->Value.okWide P W' .any 0 t r) :
  s.post enc P f apart fresh handsOn again W args v W':=by
 have hlt:∀p∈before,p.block<W.heap.size:=fun p hp=>hW.lt p hp
 have hold:∀p∈before,(fun b=>decide (b<W.heap.size)) p.block=true:=fun p hp=>by simpa using hlt p hp
 refine⟨ds,gs,before,[],pa,pv,hW,hres _ _ _,hargs _ hold,hvars _ hold,World.keptBut_mono (fun p hp=>⟨hp,?_⟩) (hb.frame (·∈before)),fun _=>?_⟩
 ·rw[hps,List.mem_append]at hp
  exact Or.inr hp
 ·obtain⟨_,_,_,_,_,hz,hn⟩:=hW
  refine⟨hok,_,_,([]++pa)++pv,⟨[]++pa,pv,trodAll_append (hargs _ (fun _ _=>rfl)) (hres _ _ _),hvars _ (fun _ _=>rfl),rfl,?_,?_⟩,?_⟩
  ·intro b off hp
   have hin:MemPlace.cell b off∈before:=by rw[hps];simpa using hp
   rw[hb.frozen (hlt _ hin)]
   exact hz b off hin
  ·intro ha
   have:=hn ha
   rw[hps]at this
   simpa using this
  ·intro p hp _
   rw[hps]
   simpa using hp
end
theorem Try.own:ownKnob Try.prog.godebug=none:=by kernel_rfl
theorem Try.laidOut:laidOutB Try.prog=true:=by kernel_rfl
end
section
open Go.ChangeShapes Go.WideShapes Go.ChangeAt Go.RowKit Go.ChangeMaps Go.Ab
theorem args_len{l:List Arg}:8*l.length<=argsW l:=by
 unfold argsW
 induction l with
 |nil=>simp
 |cons a l ih=>simp only[List.map_cons,List.sum_cons,List.length_cons];omega
theorem rows_len{l:List Row}:8*l.length<=rowsW l:=by
 unfold rowsW
 induction l with
 |nil=>simp
 |cons a l ih=>simp only[List.map_cons,List.sum_cons,List.length_cons,rowW];omega
theorem rows_mem{l:List Row}{r:Row}(h:r∈l):8*r.args.length<=rowsW l:=by
 unfold rowsW
 induction l with
 |nil=>cases h
 |cons a l ih=>
  simp only[List.map_cons,List.sum_cons]
  rcases List.mem_cons.1 h with rfl |h
  ·have:=args_len (l:=r.args);unfold rowW;omega
  ·have:=ih h;omega
theorem rows_any{W:World}{v:Value}{l:List (Row×Value)}(hin:RowsIn W v l)(hs:rowsW (l.map (·.1))<=500000000)(hn:∀y∈l,y.1.num<=9223372036854775807) :
  Calls Try.prog 5 #[v] W fun e w'=>e=.returned (.bool true)/\Below W.heap.size W w':=by
 have hb:∀y∈l,y.1.args.length<=100000000:=fun y hy=>by have:=rows_mem (List.mem_map_of_mem (f:=(·.1)) hy);omega
 have hl:l.length<=100000000:=by have:=rows_len (l:=l.map (·.1));rw[zZ]at this;omega
 have hn':∀y∈tabL l,y.1.num<=9223372036854775807:=fun y hy=>by
  obtain⟨i,hi⟩:=List.mem_iff_getElem?.1 hy
  rw[tabL_get]at hi
  obtain⟨y',hy',rfl⟩:=Option.map_eq_some_iff.1 hi
  exact hn y' (zP hy')
 have hc:ACalls Try.prog 5 [tabAV v l] (inAH W v l) (fun _=>False) (fun ae _=>ae=.ret (B true)):=law_unrolls (in_rows hin hb hl) hn' fun _ _=>rfl
 refine(hc _ W [v] (in_rel hin) (.cons (tabAV_vr hin) .nil)).mono ?_
 rintro e w' ⟨E',h',ae,hst,he,rfl⟩
 refine⟨?_,hst.below⟩
 cases e<;>first |exact he.elim |skip
 cases he
 rfl
theorem below_same{W W':World}(hb:Below W.heap.size W W'){x:MemPlace}(hx:x.block<W.heap.size):W.sameAt W' x:=by
 cases x with
 |cell b off=>
  show W'.cell? ⟨b,off,none⟩=W.cell? ⟨b,off,none⟩
  unfold World.cell?
  rw[hb.block b hx]
 |map b=>exact hb.block b hx
theorem slice_own{W:World}{base:Nat}{v v1:Value}(h:Value.okWide Try.prog W .any base 22 v)(hc:v.cells.toList=[v1]):v=v1:=by
 unfold Value.okWide at h
 rw[Try.underlying22]at h
 simp only[Cell.okWide,Cell.ok,Try.underlying22]at h
 cases v<;>simp_all [Value.cells]
theorem rows_contract(H:Type)(enc:TypeId×Value->H)(W:World)(base:Nat)(args:Array Value)(ds gs:List (DataW H))(before:List MemPlace)
  (hval:∀(j:Nat) t v,Try.f5.params[j]?=some t->args[j]?=some v->Value.okWide Try.prog W .any base t v)
  (hW:DataW.Whole enc Try.prog Try.f5.params.toList Rows.flatUnrollsSpec.vars false W args.toList ds gs before) (hk:Rows.uptoSmall H (ds++gs)=true) :
  Calls Try.prog 5 args W fun e W'=>∃v,e=.returned v/\Rows.flatUnrollsSpec.post enc Try.prog Try.f5 false true false false W args v W':=by
 have hW':=hW
 obtain⟨p,q,hA0,hV,rfl,hfz,hnd⟩:=hW
 have hA:DataW.TrodAll enc Try.prog W 0 (fun _=>true) true Try.f5.params.toList args.toList ds p:=hA0
 rw[Try.params5]at hA hval
 obtain⟨v0,d0,rfl,rfl,h0⟩:=trodAll_one hA
 obtain⟨rfl,rfl⟩:=trodVars_none hV
 clear hA0
 simp only[List.append_nil]at hW'
 have h00:=h0
 obtain⟨fuel,hf⟩:=h0
 obtain⟨v1,l,hc,hin,hs,hnum⟩:=rows_open hf
 have hv:=slice_own (hval 0 22 v0 rfl rfl) hc
 subst hv
 have hbulk:Rows.uptoBulk d0<=1048576:=by
  have:=of_decide_eq_true hk
  simp only[List.append_nil,Rows.uptoBulkAll]at this
  omega
 have hs:rowsW (l.map (·.1))<=8*Rows.uptoBulk d0:=hs
 refine(rows_any hin (by omega) hnum).mono fun e W' ⟨he,hbl⟩=>?_
 subst he
 have hsame:∀x∈p,W.sameAt W' x:=fun x hx=>below_same hbl (hW'.lt x hx)
 exact⟨_,rfl,post_of_below (pa:=p) (pv:=[]) hW' (fun _ _ _=>trodAll_mk1 (shut_bool Try.underlying4 true)) (fun sp hsp=>trodAll_mk1 (WideElems.Trod_stays (P:=Try.prog) Try.laidOut (by kernel_rfl) (of_decide_eq_true (by kernel_rfl)) h00 hsame hsp)) (fun _ _=>rfl) (by simp) hbl (ok_one (by kernel_rfl) rfl (okWide_bool_mk Try.underlying4 true))⟩
theorem rows_reads(os:Os){H:Type}(enc:TypeId×Value->H):∃places,DataW.whole enc Try.prog ((World.holding Try.prog os ⟨#[],#[],[]⟩).forCall (fun _ _=>0) ⟨#[],#[.slice none 0 0],[]⟩).memory Try.f5.params.toList Rows.flatUnrollsSpec.vars false #[Value.slice none 0 0].toList 8=some ([.nil],[],places):=
 ⟨[],by kernel_rfl⟩
theorem rows_lifted(os:Os)(started:os.Started)(H:Type)(enc:TypeId×Value->H)(F:Stop.Interp) :
  ReturnsInHanded {} Try.checked os 5 .any ((Rows.OpenSpec.upto Rows.flatUnrollsSpec).preRow enc Try.prog Try.f5 Rows.flatUnrollsUptoRow.domain false Rows.flatUnrollsUptoRow.laid) (((Rows.OpenSpec.upto Rows.flatUnrollsSpec).at F).post enc Try.prog Try.f5 false true false false):=by
 obtain⟨places,hx⟩:=rows_reads os enc
 refine returnsInHanded_of_row (C:=Try.checked) (s:=Rows.OpenSpec.upto Rows.flatUnrollsSpec) Try.own started (by kernel_rfl) Try.func5
  (witness_row_at (enc:=enc) (C:=Try.checked) false (World.holding Try.prog os ⟨#[],#[],[]⟩) #[.slice none 0 0] rfl (by kernel_rfl) (by kernel_rfl) (by kernel_rfl)
   (OpenSpec.preRow_of_cond 8 hx (by kernel_rfl) (fun k hk=>by cases hk;kernel_rfl) (by kernel_rfl) (show laidMet Try.prog Rows.flatUnrollsUptoRow.laid _ from laidMet_of_run' 80 (by kernel_rfl) (by kernel_rfl)))) ?_
 intro W base args ds gs before hval hW _ hcond _ _ _ _
 exact rows_contract H enc W base args ds gs before hval hW (hcond _ rfl)
theorem flatunrolls_said:Rows.FlatUnrollsUptoSaid:=
 OpenClaim.holds_of_cond 5 Try.f5 rfl rfl rfl rfl rfl rfl rfl ⟨rfl,rfl,rfl,rfl,rfl⟩ rfl rfl rfl rfl rfl (by kernel_rfl) Try.func5 (by kernel_rfl)
  (of_decide_eq_true (by kernel_rfl)) (by unfold Func.isWrapper;first |(rw[zX (by decide +kernel)];kernel_rfl) |(rw[zW (by decide +kernel)];exact⟨rfl,rfl⟩))
  (fun os started H enc _ F=>by rw[OpenClaim.pre_eq_preRow];exact rows_lifted os started H enc F)
end
end Go.Proofs.Ytjehibknlmehmaa
