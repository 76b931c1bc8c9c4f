/- A circuit of gates beside its mirror runs to nothing; Clean, Then and Inverse walked (a range over a function, its regions by the table). No condition. -/
import Derived.Shelf.Spec.SlicesGrow
import Derived.RangeFuncIn
import Derived.RangeFuncRecord
import Derived.RangeFuncLeaves
import Derived.Test.YtbdibjgoeeokoaaOd
import Derived.Test.YtbdibjgoeeokoaaGu
set_option maxRecDepth 100000
namespace Go.Proofs.Ytbdibjgoeeokoaa
section
open Go.Ab
def mir(o:COp):COp:={ o with name:=backT o.name }
def mirror(l:List COp):List COp:=l.reverse.map mir
def GQ(o:COp):Prop:=o.kind=1/\o.qubits≠[]
def nb(ops:List COp)(j:Nat)(a:COp):Option Nat:=neighGo a (ops.drop (j+1)) (j+1)
def halt(a b:COp):Bool:=alikeB a b||stopB a b
theorem halt_touch{a b:COp}(ha:GQ a)(hb:GQ b):halt a b=touchB a b:=by
 unfold halt stopB
 have hk:(b.kind==2)=false:=by rw[hb.1];rfl
 rw[hk,Bool.false_and,Bool.or_false]
 cases h:alikeB a b with
 |false=>rfl
 |true=>rw[alike_touch ha.2 h];rfl
theorem alike_mir{a b:COp}:alikeB a (mir b)=alikeB a b:=rfl
theorem neighGo_app{a:COp}:∀{A B:List COp}{k:Nat},neighGo a (A++B) k=match neighGo a A k with
  |some m=>some m
  |none=>if A.any (halt a)=true then none else neighGo a B (k+A.length)
 |[],B,k=>by simp[neighGo]
 |b::A,B,k=>by
  simp only[List.cons_append,neighGo,List.any_cons,List.length_cons]
  cases h1:alikeB a b with
  |true=>simp
  |false=>
   cases h2:stopB a b with
   |true=>simp[halt,h1,h2]
   |false=>
    have h3:halt a b=false:=by unfold halt;rw[h1,h2];rfl
    simp only[h3,Bool.false_or,zE,if_false]
    rw[neighGo_app,show k+1+A.length=k+(A.length+1) by omega]
theorem neighGo_none{a:COp}:∀{A:List COp}{k:Nat},A.any (halt a)=false->neighGo a A k=none
 |[],_,_=>rfl
 |b::A,k,h=>by
  rw[List.any_cons,Bool.or_eq_false_iff]at h
  have h1:=h.1
  unfold halt at h1
  rw[Bool.or_eq_false_iff]at h1
  simp only[neighGo,h1.1,h1.2,zE,if_false]
  exact neighGo_none h.2
theorem neighGo_shift{a:COp}:∀{A:List COp}{k:Nat},neighGo a A (k+1)=(neighGo a A k).map (·+1)
 |[],_=>rfl
 |b::A,k=>by
  simp only[neighGo]
  split
  ·rfl
  split
  ·rfl
  ·exact neighGo_shift
theorem fit_bare{ops:List COp}{r j:Nat}{g:List Int×ByteArray}(h:fitP (bare ops) r j=some g):j<ops.length:=by
 unfold fitP at h
 cases hj:(bare ops)[j]? with
 |none=>rw[hj]at h;cases h
 |some y=>have:=(zM.1 hj).1;simpa using this
theorem bare_get{ops:List COp}{j:Nat}:(bare ops)[j]?=(ops[j]?).map fun o=>(o,nilS):=by unfold bare;rw[List.getElem?_map]
theorem nbr_nb{ops:List COp}{j:Nat}{a:COp}(ha:a.kind=1):nbr (bare ops) j a=nb ops j a:=by
 unfold nbr nb
 rw[zX ha,bare_fst]
theorem place_none{l:List (COp×AV)}{r:Nat}:∀{n j:Nat},placeF l r n j=none↔∀i,j<=i->i<j+n->fitP l r i=none
 |0,j=>by simp only[placeF,true_iff];intro i h1 h2;omega
 |n+1,j=>by
  simp only[placeF]
  constructor
  ·intro h
   split at h
   ·cases h
   ·rename_i e
    intro i h1 h2
    by_cases hi:i=j
    ·rw[hi];exact e
    ·exact place_none.1 h i (by omega) (by omega)
  ·intro h
   rw[h j (zU _) (by omega)]
   exact place_none.2 fun i h1 h2=>h i (by omega) (by omega)
theorem place_first{l:List (COp×AV)}{r:Nat}{g:List Int×ByteArray}:∀{n j i:Nat},j<=i->i<j+n->fitP l r i=some g->(∀k,j<=k->k<i->fitP l r k=none)->placeF l r n j=some g
 |0,j,i,h1,h2,_,_=>by omega
 |n+1,j,i,h1,h2,h3,h4=>by
  simp only[placeF]
  by_cases hi:i=j
  ·subst hi;rw[h3]
  ·rw[h4 j (zU _) (by omega)]
   exact place_first (by omega) (by omega) h3 fun k h5 h6=>h4 k (by omega) h6
def Irr(ops:List COp):Prop:=∀r j,r<4->fitP (bare ops) r j=none
theorem irr_iff{ops:List COp}:stepC ops=none↔Irr ops:=by
 unfold stepC stepF Irr
 rw[Option.map_eq_none_iff]
 have key:∀n r,n+r=4->(ruleF (bare ops) n r=none↔∀i,r<=i->i<4->∀j,fitP (bare ops) i j=none):=by
  intro n
  induction n with
  |zero=>intro r h;simp only[ruleF,true_iff];intro i h1 h2;omega
  |succ n ih=>
   intro r h
   simp only[ruleF]
   have all:placeF (bare ops) r (bare ops).length 0=none↔∀j,fitP (bare ops) r j=none:=by
    rw[place_none]
    constructor
    ·intro h j
     cases hf:fitP (bare ops) r j with
     |none=>rfl
     |some g=>
      have:=fit_bare hf
      have h2:=h j (by omega) (by simp;exact this)
      rw[hf]at h2;cases h2
    ·exact fun h i _ _=>h i
   constructor
   ·intro h2
    split at h2
    ·cases h2
    ·rename_i e
     intro i h3 h4
     by_cases hi:i=r
     ·subst hi;exact all.1 e
     ·exact(ih (r+1) (by omega)).1 h2 i (by omega) h4
   ·intro h2
    rw[all.2 (h2 r (zU _) (by omega))]
    exact(ih (r+1) (by omega)).2 fun i h3 h4=>h2 i (by omega) h4
 rw[key 4 0 rfl]
 exact⟨fun h r j hr=>h r (Nat.zero_le _) hr j,fun h i _ hi j=>h i j hi⟩
theorem withC_app{g:List Int}{nm:ByteArray}:∀{X Y:List COp}{i:Nat},withC g nm (X++Y) i=withC g nm X i++withC g nm Y (i+X.length)
 |[],Y,i=>by simp[withC]
 |x::X,Y,i=>by
  simp only[List.cons_append,withC,List.length_cons,List.append_assoc]
  rw[withC_app,show i+1+X.length=i+(X.length+1) by omega]
theorem withC_keep{g:List Int}:∀{X:List COp}{i:Nat},(∀k,k<X.length->((i+k:Nat):Int)∉g)->withC g ⟨#[]⟩ X i=X
 |[],_,_=>rfl
 |x::X,i,h=>by
  have h0:=h 0 (by simp)
  simp only[withC]
  rw[withC_keep fun k hk=>by rw[show i+1+k=i+(k+1) by omega];exact h (k+1) (by simp;omega)]
  have:wOne g ⟨#[]⟩ i (x,nilS)=[(x,nilS)]:=by
   unfold wOne
   rw[zW (by rw[show(⟨#[]⟩:ByteArray)=ByteArray.empty from rfl];simp),zW (by rw[memB_mem];simpa using h0)]
  rw[this];rfl
theorem withC_drop{g:List Int}{x:COp}{i:Nat}(h:(i:Int)∈g):withC g ⟨#[]⟩ [x] i=[]:=by
 simp only[withC]
 have:wOne g ⟨#[]⟩ i (x,nilS)=[]:=by
  unfold wOne
  rw[zW (by rw[show(⟨#[]⟩:ByteArray)=ByteArray.empty from rfl];simp),zX (by rw[memB_mem];simpa using h)]
 rw[this];rfl
theorem back_i{n:ByteArray}(h:backT n=⟨#[105]⟩):n=⟨#[105]⟩:=by
 by_cases k0:n=⟨#[115]⟩
 ·rw[k0]at h;exact absurd h (by decide +kernel)
 by_cases k1:n=⟨#[116]⟩
 ·rw[k1]at h;exact absurd h (by decide +kernel)
 by_cases k2:n=⟨#[118]⟩
 ·rw[k2]at h;exact absurd h (by decide +kernel)
 by_cases k3:n=⟨#[119]⟩
 ·rw[k3]at h;exact absurd h (by decide +kernel)
 by_cases k4:n=⟨#[99,115]⟩
 ·rw[k4]at h;exact absurd h (by decide +kernel)
 by_cases k5:n=⟨#[105,115,119,97,112]⟩
 ·rw[k5]at h;exact absurd h (by decide +kernel)
 by_cases k6:n=⟨#[115,100,103]⟩
 ·rw[k6]at h;exact absurd h (by decide +kernel)
 by_cases k7:n=⟨#[116,100,103]⟩
 ·rw[k7]at h;exact absurd h (by decide +kernel)
 by_cases k8:n=⟨#[118,100,103]⟩
 ·rw[k8]at h;exact absurd h (by decide +kernel)
 by_cases k9:n=⟨#[119,100,103]⟩
 ·rw[k9]at h;exact absurd h (by decide +kernel)
 by_cases k10:n=⟨#[99,115,100,103]⟩
 ·rw[k10]at h;exact absurd h (by decide +kernel)
 by_cases k11:n=⟨#[105,115,119,97,112,100,103]⟩
 ·rw[k11]at h;exact absurd h (by decide +kernel)
 rw[backT,zW k0,zW k1,zW k2,zW k3,zW k4,zW k5,zW k6,zW k7,zW k8,zW k9,zW k10,zW k11]at h
 exact h
theorem good_self{n:ByteArray}{a:List Int}:goodR n a a=true:=by
 unfold goodR
 split
 ·rfl
 split
 ·simp
 split
 ·simp
 ·simp
theorem irr_idle{ops:List COp}(h:Irr ops){j:Nat}{a:COp}(hj:ops[j]?=some a)(ha:a.kind=1):a.name≠⟨#[105]⟩:=fun e=>by
 have:=h 0 j (by omega)
 unfold fitP at this
 rw[bare_get,hj]at this
 simp only[yB]at this
 rw[zW (by simp[ha]),zX e]at this
 cases this
theorem no_idle{ops:List COp}(h:∀o∈ops,o.name≠⟨#[105]⟩){j:Nat}:fitP (bare ops) 0 j=none:=by
 unfold fitP
 rw[bare_get]
 cases hj:ops[j]? with
 |none=>rfl
 |some a=>
  have:=h a (zP hj)
  simp[this]
theorem mirror_app{X Y:List COp}:mirror (X++Y)=mirror Y++mirror X:=by unfold mirror;rw[List.reverse_append,List.map_append]
theorem mirror_one{x:COp}:mirror [x]=[mir x]:=rfl
theorem mirror_len{X:List COp}:(mirror X).length=X.length:=by unfold mirror;simp
theorem mirror_any{a:COp}{X:List COp}:(mirror X).any (halt a)=X.any (halt a):=by
 unfold mirror
 rw[List.any_map,List.any_reverse]
 rfl
theorem undo_half{P A:List COp}{a:COp}(hi:Irr (P++a::A))(hk:a.kind=1)(hq:∀o∈P++a::A,GQ o) :
  fitP (bare ((P++a::A)++mirror (P++a::A))) 1 P.length=if A.any (halt a)=true then none else some ([(P.length:Int),((P.length+1+A.length+A.length:Nat):Int)],⟨#[]⟩):=by
 have hL:(P++a::A)++mirror (P++a::A)=P++a::(A++(mirror A++(mir a::mirror P))):=by
  rw[mirror_app,show a::A=[a]++A from rfl,mirror_app,mirror_one]
  simp
 have hj:((P++a::A)++mirror (P++a::A))[P.length]?=some a:=by
  rw[hL,List.getElem?_append_right (zU _),Nat.sub_self];rfl
 have hj0:(P++a::A)[P.length]?=some a:=by rw[List.getElem?_append_right (zU _),Nat.sub_self];rfl
 have hd:((P++a::A)++mirror (P++a::A)).drop (P.length+1)=A++(mirror A++(mir a::mirror P)):=by
  rw[hL,show P++a::(A++(mirror A++(mir a::mirror P)))=(P++[a])++(A++(mirror A++(mir a::mirror P))) by simp]
  rw[show P.length+1=(P++[a]).length by simp,List.drop_left]
 have hd0:(P++a::A).drop (P.length+1)=A:=by
  rw[show P++a::A=(P++[a])++A by simp,show P.length+1=(P++[a]).length by simp,List.drop_left]
 have h0:=hi 1 P.length (by omega)
 unfold fitP at h0 ⊢
 rw[bare_get,hj]
 rw[bare_get,hj0]at h0
 simp only[yB,ne_eq,hk,not_true_eq_false,if_false,nbr_nb hk]at h0 ⊢
 unfold nb at h0 ⊢
 rw[hd,neighGo_app]
 rw[hd0]at h0
 cases hn:neighGo a A (P.length+1) with
 |some k=>
  rw[hn]at h0
  obtain⟨hk1,b,hb,hal⟩:=neighGo_in hn
  have hkA:k-(P.length+1)<A.length:=(zM.1 hb).1
  have gb0:(P++a::A)[k]?=some b:=by
   rw[List.getElem?_append_right (by omega),show k-P.length=(k-(P.length+1))+1 by omega,zB];exact hb
  have gb:((P++a::A)++mirror (P++a::A))[k]?=some b:=by
   rw[List.getElem?_append_left (by simp;omega)];exact gb0
  have hany:A.any (halt a)=true:=List.any_eq_true.2 ⟨b,zP hb,by unfold halt;rw[hal];rfl⟩
  simp only[bare_get,gb0,yB]at h0
  simp only[bare_get,gb,yB,zX hany]
  exact h0
 |none=>
  simp only[]
  by_cases hany:A.any (halt a)=true
  ·rw[zX hany,zX hany]
  ·have hany':A.any (halt a)=false:=by simpa using hany
   rw[zW hany,zW hany,neighGo_app,neighGo_none (by rw[mirror_any];exact hany')]
   simp only[]
   rw[zW (by rw[mirror_any];exact hany),mirror_len]
   have hal:alikeB a (mir a)=true:=by
    rw[alike_mir]
    unfold alikeB sameB subB
    simp[hk]
   have hng:neighGo a (mir a::mirror P) (P.length+1+A.length+A.length)=some (P.length+1+A.length+A.length):=by
    simp only[neighGo,hal,zV]
   rw[hng]
   have gm:((P++a::A)++mirror (P++a::A))[P.length+1+A.length+A.length]?=some (mir a):=by
    rw[hL,List.getElem?_append_right (by omega),show P.length+1+A.length+A.length-P.length=(A.length+A.length)+1 by omega,zB,List.getElem?_append_right (by omega),
     show A.length+A.length-A.length=A.length by omega,List.getElem?_append_right (by rw[mirror_len];exact zU _),mirror_len,Nat.sub_self]
    rfl
   simp only[bare_get,gm,yB]
   rw[zX ⟨rfl,good_self⟩]
theorem irr_erase{P A:List COp}{a:COp}(hi:Irr (P++a::A))(hq:∀o∈P++a::A,GQ o)(hf:A.any (halt a)=false):Irr (P++A):=by
 have hqa:GQ a:=hq a (by simp)
 have hqA:∀o∈A,GQ o:=fun o ho=>hq o (by simp[ho])
 have hqP:∀o∈P,GQ o:=fun o ho=>hq o (by simp[ho])
 have free:∀b∈A,touchB a b=false:=fun b hb=>by
  have:=List.any_eq_false.1 hf b hb
  rw[halt_touch hqa (hqA b hb)]at this
  simpa using this
 let e:Nat->Nat:=fun j=>if j<P.length then j else j+1
 have eget:∀j,(P++a::A)[e j]?=(P++A)[j]?:=fun j=>by
  show(P++a::A)[if j<P.length then j else j+1]?=_
  split
  ·rename_i h
   rw[List.getElem?_append_left h,List.getElem?_append_left h]
  ·rename_i h
   rw[List.getElem?_append_right (by omega),List.getElem?_append_right (by omega),show j+1-P.length=(j-P.length)+1 by omega,zB]
 have enb:∀j x k,(P++A)[j]?=some x->nb (P++A) j x=some k->nb (P++a::A) (e j) x=some (e k):=fun j x k hx hk=>by
  unfold nb at hk ⊢
  have hqx:GQ x:=hq x (by
   rcases List.mem_append.1 (zP hx) with h |h
   ·simp[h]
   ·simp[h])
  by_cases hjP:j<P.length
  ·have he:e j=j:=zX hjP
   rw[he]
   have d1:(P++A).drop (j+1)=P.drop (j+1)++A:=by rw[List.drop_append_of_le_length (by omega)]
   have d2:(P++a::A).drop (j+1)=P.drop (j+1)++a::A:=by rw[List.drop_append_of_le_length (by omega)]
   rw[d1,neighGo_app]at hk
   rw[d2,neighGo_app]
   cases hn:neighGo x (P.drop (j+1)) (j+1) with
   |some m=>
    rw[hn]at hk
    simp only[zQ]at hk ⊢
    subst hk
    obtain⟨h1,b,hb,_⟩:=neighGo_in hn
    have h2:=(zM.1 hb).1
    rw[List.length_drop]at h2
    exact(zX (by omega)).symm
   |none=>
    rw[hn]at hk
    simp only[]at hk ⊢
    split at hk
    ·cases hk
    ·rename_i hany
     rw[zW hany]
     have hlen:j+1+(P.drop (j+1)).length=P.length:=by rw[List.length_drop];omega
     rw[hlen]at hk ⊢
     obtain⟨h1,b,hb,hal⟩:=neighGo_in hk
     have hbA:=zP hb
     have hnt:touchB x a=false:=by
      cases ht:touchB x a with
      |false=>rfl
      |true=>
       exfalso
       unfold touchB at ht
       simp only[List.any_eq_true,decide_eq_true_eq]at ht
       obtain⟨z,hz1,hz2⟩:=ht
       have h3:=(alike_mem hal z).1 hz1
       have h4:=free b hbA
       unfold touchB at h4
       rw[List.any_eq_false]at h4
       exact h4 z hz2 (by simpa using h3)
     have hh:halt x a=false:=by rw[halt_touch hqx hqa];exact hnt
     unfold halt at hh
     rw[Bool.or_eq_false_iff]at hh
     simp only[neighGo,hh.1,hh.2,zE,if_false]
     rw[neighGo_shift,hk]
     have:e k=k+1:=zW (by omega)
     rw[this];rfl
  ·have he:e j=j+1:=zW hjP
   rw[he]
   have d1:(P++A).drop (j+1)=A.drop (j+1-P.length):=by rw[List.drop_append,List.drop_of_length_le (by omega),List.nil_append]
   have d2:(P++a::A).drop (j+1+1)=A.drop (j+1-P.length):=by
    rw[List.drop_append,List.drop_of_length_le (by omega),List.nil_append,show j+1+1-P.length=(j+1-P.length)+1 by omega,List.drop_succ_cons]
   rw[d1]at hk
   rw[d2,neighGo_shift,hk]
   obtain⟨h1,_⟩:=neighGo_in hk
   have:e k=k+1:=zW (by omega)
   rw[this];rfl
 intro r j hr
 cases hfit:fitP (bare (P++A)) r j with
 |none=>rfl
 |some g=>
  exfalso
  have h0:=hi r (e j) hr
  unfold fitP at hfit h0
  rw[bare_get]at hfit h0
  rw[eget]at h0
  cases hx:(P++A)[j]? with
  |none=>rw[hx]at hfit;cases hfit
  |some x=>
   rw[hx]at hfit h0
   simp only[yB]at hfit h0
   split at hfit
   ·cases hfit
   rename_i hk
   rw[zW hk]at h0
   have hk:x.kind=1:=by simpa using hk
   match r with
   |0=>
    simp only at hfit h0
    split at hfit
    ·rename_i e1;rw[zX e1]at h0;cases h0
    ·cases hfit
   |r+1=>
    simp only[nbr_nb hk]at hfit h0
    cases hn:nb (P++A) j x with
    |none=>rw[hn]at hfit;cases hfit
    |some k=>
     rw[hn]at hfit
     rw[enb j x k hx hn]at h0
     simp only[bare_get,eget]at hfit h0
     cases hy:(P++A)[k]? with
     |none=>rw[hy]at hfit;cases hfit
     |some y=>
      rw[hy]at hfit h0
      simp only[yB]at hfit h0
      have hky:y.kind=1:=(hq y (by
       rcases List.mem_append.1 (zP hy) with h |h
       ·simp[h]
       ·simp[h])).1
      match r with
      |0=>
       simp only at hfit h0
       split at hfit
       ·rename_i e1;rw[zX e1]at h0;cases h0
       ·cases hfit
      |1=>
       simp only at hfit h0
       split at hfit
       ·rename_i e1;rw[zX e1]at h0;cases h0
       ·cases hfit
      |r+2=>
       simp only[nbr_nb hky]at hfit h0
       cases hn2:nb (P++A) k y with
       |none=>rw[hn2]at hfit;cases hfit
       |some m=>
        rw[hn2]at hfit
        rw[enb k y m hy hn2]at h0
        simp only[bare_get,eget]at hfit h0
        cases hz:(P++A)[m]? with
        |none=>rw[hz]at hfit;cases hfit
        |some z=>
         rw[hz]at hfit h0
         simp only[yB]at hfit h0
         split at hfit
         ·rename_i e1
          rw[zX e1]at h0
          split at hfit
          ·rename_i e2;rw[zX e2]at h0;cases h0
          ·rename_i e2
           rw[zW e2]at h0
           split at hfit
           ·rename_i e3;rw[zX e3]at h0;cases h0
           ·cases hfit
         ·cases hfit
theorem first_free{ops:List COp}(hq:∀o∈ops,GQ o)(hne:ops≠[]):∃P a A,ops=P++a::A/\A.any (halt a)=false/\∀P' b B,ops=P'++b::B->P'.length<P.length->B.any (halt b)=true:=by
 induction ops with
 |nil=>exact absurd rfl hne
 |cons x l ih=>
  by_cases hx:l.any (halt x)=true
  ·have hl:l≠[]:=fun e=>by rw[e]at hx;simp at hx
   obtain⟨P,a,A,h1,h2,h3⟩:=ih (fun o ho=>hq o (List.mem_cons_of_mem _ ho)) hl
   refine⟨x::P,a,A,by rw[h1];rfl,h2,fun P' b B h4 h5=>?_⟩
   cases P' with
   |nil=>
    simp only[List.nil_append,List.cons.injEq]at h4
    rw[<-h4.1,<-h4.2];exact hx
   |cons p P'=>
    simp only[List.cons_append,List.cons.injEq]at h4
    exact h3 P' b B h4.2 (by simpa using h5)
  ·exact⟨[],x,l,rfl,by simpa using hx,fun P' b B h4 h5=>by simp at h5⟩
theorem undo_step{ops:List COp}(hi:Irr ops)(hq:∀o∈ops,GQ o)(hne:ops≠[]):∃ops',stepC (ops++mirror ops)=some (ops'++mirror ops')/\Irr ops'/\(∀o∈ops',GQ o)/\ops'.length<ops.length:=by
 obtain⟨P,a,A,rfl,hfree,hmin⟩:=first_free hq hne
 have hk:a.kind=1:=(hq a (by simp)).1
 refine⟨P++A,?_,irr_erase hi hq hfree,fun o ho=>hq o (by rcases List.mem_append.1 ho with h |h<;>simp[h]),by simp⟩
 have hfit:=undo_half hi hk hq
 rw[zW (by rw[hfree];simp)]at hfit
 have hlow:∀k,k<P.length->fitP (bare ((P++a::A)++mirror (P++a::A))) 1 k=none:=fun k hkP=>by
  obtain⟨b,hb⟩:∃b,(P++a::A)[k]?=some b:=⟨_,zJ (by simp;omega)⟩
  have hsp:P++a::A=(P++a::A).take k++b::(P++a::A).drop (k+1):=by
   have hlt:k<(P++a::A).length:=(zM.1 hb).1
   have:=List.drop_eq_getElem_cons hlt
   rw[(zM.1 hb).2]at this
   rw[<-this,List.take_append_drop]
  have hlen:((P++a::A).take k).length=k:=by simp;omega
  have hstop:=hmin _ b _ hsp (by rw[hlen];exact hkP)
  have hkb:b.kind=1:=(hq b (zP hb)).1
  have:=undo_half (P:=(P++a::A).take k) (a:=b) (A:=(P++a::A).drop (k+1)) (by rw[<-hsp];exact hi) hkb (by rw[<-hsp];exact hq)
  rw[<-hsp,zX hstop,hlen]at this
  exact this
 have hidle:∀j,fitP (bare ((P++a::A)++mirror (P++a::A))) 0 j=none:=fun j=>by
  have hno:∀o∈P++a::A,o.name≠⟨#[105]⟩:=fun o ho=>by
   obtain⟨i,hi2⟩:=List.mem_iff_getElem?.1 ho
   exact irr_idle hi hi2 (hq o ho).1
  refine no_idle fun o ho=>?_
  rcases List.mem_append.1 ho with ho |ho
  ·exact hno o ho
  ·unfold mirror at ho
   obtain⟨o',ho',rfl⟩:=List.mem_map.1 ho
   exact fun e=>hno o' (List.mem_reverse.1 ho') (back_i e)
 have hs:stepF (bare ((P++a::A)++mirror (P++a::A)))=some ([(P.length:Int),((P.length+1+A.length+A.length:Nat):Int)],⟨#[]⟩):=by
  unfold stepF
  simp only[ruleF]
  rw[place_none.2 fun i _ _=>hidle i]
  simp only[]
  rw[place_first (i:=P.length) (Nat.zero_le _) (by simp) hfit fun k _ h2=>hlow k h2]
 unfold stepC
 rw[hs]
 simp only[yB,zQ]
 have hL:(P++a::A)++mirror (P++a::A)=P++([a]++(A++(mirror A++([mir a]++mirror P)))):=by
  rw[mirror_app,show a::A=[a]++A from rfl,mirror_app,mirror_one]
  simp
 rw[hL]
 generalize hg:[(P.length:Int),((P.length+1+A.length+A.length:Nat):Int)]=g
 have mem:∀i:Nat,(i:Int)∈g↔i=P.length\/i=P.length+1+A.length+A.length:=fun i=>by
  rw[<-hg];simp only[List.mem_cons,List.not_mem_nil,or_false]
  omega
 rw[withC_app,withC_app,withC_app,withC_app,withC_app]
 simp only[zG,mirror_len,List.length_cons,List.length_nil]
 rw[withC_keep (X:=P) fun k hk=>by rw[mem];omega]
 rw[withC_drop (x:=a) ((mem _).2 (.inl rfl))]
 rw[withC_keep (X:=A) fun k hk=>by rw[mem];omega]
 rw[withC_keep (X:=mirror A) fun k hk=>by rw[mirror_len]at hk;rw[mem];omega]
 rw[withC_drop (x:=mir a) ((mem _).2 (.inr (by omega)))]
 rw[withC_keep (X:=mirror P) fun k hk=>by rw[mirror_len]at hk;rw[mem];omega]
 rw[mirror_app]
 simp
theorem undone:∀{n:Nat}{ops:List COp},ops.length<=n->Irr ops->(∀o∈ops,GQ o)->runT (ops++mirror ops)=[]:=by
 intro n
 induction n with
 |zero=>
  intro ops hl hi hq
  have:ops=[]:=List.length_eq_zero_iff.1 (by omega)
  subst this
  rfl
 |succ n ih=>
  intro ops hl hi hq
  by_cases hne:ops=[]
  ·subst hne;rfl
  ·obtain⟨ops',h1,h2,h3,h4⟩:=undo_step hi hq hne
   rw[runT_some h1]
   exact ih (by omega) h2 h3
end
section
open Go.Ab
attribute [-simp] eAlloc_d eStore_f
theorem ent26:entOk Try.prog 26=true:=by kernel_rfl
theorem ent27:entOk Try.prog 27=true:=by kernel_rfl
theorem ent46:entOk Try.prog 46=true:=by kernel_rfl
def cleanB(o:COp):Bool:=o.kind==1&&!o.cond
def gateB(o:COp):Bool:=o.kind==1
def Such(f:Nat)(p:COp->Bool):Prop:=entOk Try.prog f=true/\∀{h:AH}{M:Nat->Prop}{R:AE->AH->Prop}{y:COp×AV},oneA y.2=true->(∀h',Fr h h' (fun _=>False)->R (.ret (B (p y.1))) h')->ACalls Try.prog f [.agg (encO y)] h M R
theorem such26:Such 26 cleanB:=⟨ent26,fun{h M R y} h1 hR=>by
 apply F26.callsN
 unfold F26.n5
 refine box_var (encO_one h1) fun vo h2 f2 hn2 ho=>?_
 have hR:=hR h2 f2
 unfold cleanB at hR
 unfold F26.n4
 refine var_fld ho rfl fun _=>?_
 rw[pBin_eql]
 cases k:(y.1.kind==1) with
 |false=>
  rw[k]at hR
  simp[F26.n3,F26.n2,F26.n1]
  simpa using hR
 |true=>
  rw[k]at hR
  unfold F26.n3
  simp only[aIg_b,zS,zD,zF,zC,zI]
  refine var_fld ho rfl fun _=>?_
  simp[F26.n2,F26.n1]
  simpa using hR⟩
theorem such27:Such 27 gateB:=⟨ent27,fun{h M R y} h1 hR=>by
 apply F27.callsN
 unfold F27.n2
 refine box_var (encO_one h1) fun vo h2 f2 hn2 ho=>?_
 have hR:=hR h2 f2
 unfold gateB at hR
 unfold F27.n1
 refine var_fld ho rfl fun _=>?_
 rw[pBin_eql]
 exact hR⟩
section
variable {h:AH} {M:Nat->Prop} {R:AE->AH->Prop} {x xa:AV} {l:List (COp×AV)} {q b:Int} {f Bs:Nat} {p:COp->Bool} {a:COp}
theorem all1_ok{y:COp×AV}(hs:Such f p)(hb:h.obj Bs=some (mkO [.fn (.func f) [] []] 1 59))(h1:oneA y.2=true)(hR:∀h',Fr h h' (fun _=>False)->R (.ret (B (!p y.1))) h'):ACalls Try.prog 46 [.agg (encO y),.ptr Bs 0] h M R:=by
 apply F46.callsN
 unfold F46.n2
 refine box_var (encO_one h1) fun vo h2 f2 hn2 ho=>?_
 unfold F46.n1
 simp only[lLd_f,f2.ob0 hb,ldk_mk,zA,cellK_some]
 refine var_ld ho rfl fun _=>?_
 refine aGo_of hs.1 ⟨fun _=>False,fun _ h=>h.elim,hs.2 h1 fun h3 f3=>?_⟩
 simp only[pUn_not]
 exact hR h3 (f2.tr0 f3)
theorem indexO_ok(hs:Such f p)(hb:h.obj Bs=some (mkO [.fn (.func f) [] []] 1 59))(hx:OpsL h x l)(hl:l.length<=1000000)
  (hR:∀(r:Int) h',Fr h h' (fun _=>False)->(decide (0<=r)=l.any fun y=>!p y.1)->R (.ret (I r)) h'):ACalls Try.prog 64 [x,.fn (.func 46) [] [.ptr Bs 0]] h M R:=by
 apply F64.callsN
 unfold F64.n11 F64.n10
 simp only[hx.tab.len.1,hx.tab.len.2,zH]
 unfold F64.n9
 refine vLoop_of (ι:=Nat) (fun i v h'=>v=[x,.fn (.func 46) [] [.ptr Bs 0],I l.length,I i]/\i<=l.length/\Fr h h' (fun _=>False)/\(l.take i).any (fun y=>!p y.1)=false) (fun i=>l.length-i) 0 ⟨rfl,by omega,Fr.refl,by simp⟩ ?_
 rintro K i v h1 ⟨rfl,hi,f1,hno⟩ hK
 simp only[F64.g1_,zN,zO,F64.n8,pBin_lss]
 have hx1:=hx.fr0 f1
 by_cases hlt:i<l.length
 ·have hli:(i:Int)<l.length:=by omega
  have w1:IntKind.i64.wrap ((i:Int)+1)=((i+1:Nat):Int):=by rw[wrap_in (by omega) (by omega)];simp
  have g1:l[i]?=some l[i]:=zJ hlt
  generalize l[i]=y at *
  have hmy:=zP g1
  simp only[zL hli,F64.n7,aIf_b,zD,zF,zC,zI]
  unfold F64.n6 F64.n5
  refine rng_at hx1.tab encO_len g1 fun _=>?_
  refine aGo_of ent46 ⟨fun _=>False,fun _ h=>h.elim,?_⟩
  show ACalls Try.prog 46 [.agg (encO y),.ptr Bs 0] h1 _ _
  refine all1_ok hs (f1.ob0 hb) (hx1.qs _ hmy).one.1 fun h2 f2=>?_
  have f12:=f1.tr0 f2
  cases hp:p y.1 with
  |true=>
   simp only[zS,F64.n4,aIf_b,zD,zE,zC,zH,F64.n2,pBin_add,w1]
   refine hK (i+1) _ _ (by omega) ⟨rfl,by omega,f12,?_⟩
   rw[List.take_add_one,g1,List.any_append,hno]
   simp[hp]
  |false=>
   simp only[zT,F64.n4,aIf_b,zD,zF,zC,zI,F64.n3]
   refine hR i h2 f12 ?_
   have:(l.any fun y=>!p y.1)=true:=List.any_eq_true.2 ⟨y,hmy,by rw[hp];rfl⟩
   rw[this,zL (by omega)]
 ·have hnl:¬(i:Int)<l.length:=by omega
  rw[List.take_of_length_le (by omega)]at hno
  simp only[zK hnl,F64.n7,aIf_b,zD,zE,zC,zH,zV,F64.n1]
  exact hR (-1) h1 f1 (by rw[hno];rfl)
theorem containsO_ok(hs:Such f p)(hb:h.obj Bs=some (mkO [.fn (.func f) [] []] 1 59))(hx:OpsL h x l)(hl:l.length<=1000000)
  (hR:∀h',Fr h h' (fun _=>False)->R (.ret (B (l.any fun y=>!p y.1))) h'):ACalls Try.prog 45 [x,.fn (.func 46) [] [.ptr Bs 0]] h M R:=by
 apply F45.callsN
 unfold F45.n2 F45.n1
 refine⟨fun _=>False,fun _ h=>h.elim,indexO_ok hs hb hx hl fun r h1 f1 hr=>?_⟩
 simp only[pBin_geq,ge_iff_le,hr]
 exact hR h1 f1
theorem all_ok(hs:Such f p)(hx:OpsL h x l)(hql:∀y∈l,y.1.qubits.length<=9223372036854775807)
  (hR1:∀h',Fr h h' (fun _=>False)->(checkP q b (l.map (·.1))).2≠0->R (.ret (.tup [B false,I (checkP q b (l.map (·.1))).2])) h')
  (hR2:∀h',Fr h h' (fun _=>False)->CK q b (l.map (·.1))->R (.ret (.tup [B (!(l.any fun y=>!p y.1)),I 0])) h'):ACalls Try.prog 25 [.agg [I q,I b,x],.fn (.func f) [] []] h M R:=by
 apply F25.callsN
 unfold F25.n6
 refine box_var (cs:=[I q,I b,x]) (ones3 hx.tab.one.1) fun vc h1 f1 hn1 hoc=>?_
 refine⟨[.fn (.func f) [] []],rfl,rfl,?_⟩
 have hob:=AH.alloc_new h1 (mkO [.fn (.func f) [] []] 1 59)
 have f2:Fr h1 (h1.alloc (mkO [.fn (.func f) [] []] 1 59)) (fun _=>False):=Fr.refl.alloc _
 show F25.n5 _ _ _ _ _ _ _ (h1.alloc (mkO [.fn (.func f) [] []] 1 59))
 generalize h1.alloc (mkO [.fn (.func f) [] []] 1 59)=h2 at *
 have f12:=f1.tr0 f2
 have hoc:=f2.ob0 hoc
 unfold F25.n5
 refine var_ld hoc rfl fun _=>?_
 refine⟨fun _=>False,fun _ h=>h.elim,check_ok (hx.fr0 f12) hql fun h3 f3=>?_⟩
 have f13:=f12.tr0 f3
 simp only[res2,pExt_tup,zA,zB,cellK_some,F25.n4,pBin_neq,int_bne]
 by_cases he:(checkP q b (l.map (·.1))).2=0
 ·have hk:=check_iff.1 he
  have hn:=hk.n
  rw[zZ]at hn
  simp only[zL he,zS,F25.n3,aIf_b,zD,zE,zC,zH]
  unfold F25.n1
  refine var_fld (f3.ob0 hoc) rfl fun _=>?_
  refine⟨fun _=>False,fun _ h=>h.elim,containsO_ok hs (f3.ob0 hob) (hx.fr0 f13) (by omega) fun h4 f4=>?_⟩
  simp only[pUn_not]
  exact hR2 h4 (f13.tr0 f4) hk
 ·simp only[zK he,zT,F25.n3,aIf_b,zD,zF,zC,zI,F25.n2]
  exact hR1 h3 f13 he
theorem clean_ok(hx:OpsL h x l)(hql:∀y∈l,y.1.qubits.length<=9223372036854775807)
  (hR1:∀h',Fr h h' (fun _=>False)->(checkP q b (l.map (·.1))).2≠0->R (.ret (.tup [B false,I (checkP q b (l.map (·.1))).2])) h')
  (hR2:∀h',Fr h h' (fun _=>False)->CK q b (l.map (·.1))->R (.ret (.tup [B (!(l.any fun y=>!cleanB y.1)),I 0])) h'):ACalls Try.prog 16 [.agg [I q,I b,x]] h M R:=by
 apply F16.callsN
 unfold F16.n2
 refine box_var (cs:=[I q,I b,x]) (ones3 hx.tab.one.1) fun vc h1 f1 hn1 hoc=>?_
 unfold F16.n1
 refine var_ld hoc rfl fun _=>?_
 refine⟨fun _=>False,fun _ h=>h.elim,all_ok such26 (hx.fr0 f1) hql (fun h2 f2 he=>?_) fun h2 f2 hk=>?_⟩
 ·simp only[pExt_tup,zA,zB,cellK_some]
  exact hR1 h2 (f1.tr0 f2) he
 ·simp only[pExt_tup,zA,zB,cellK_some]
  exact hR2 h2 (f1.tr0 f2) hk
theorem backward_ok(h1:oneA x=true)(hR:∀v h',Fr h h' (fun _=>False)->h.next<=v->h'.obj v=some (mkO [x] 1 22)->avCells x=some [x]->R (.ret (.fn (.func 47) [] [.ptr v 0])) h')(h2:avCells x=some [x]):ACalls Try.prog 28 [x] h M R:=by
 apply F28.callsN
 unfold F28.n2
 refine⟨[x],h2,by simp only[List.all_cons,h1];rfl,?_⟩
 simp only[F28.n1]
 exact hR _ _ (Fr.refl.alloc _) (zU _) (AH.alloc_new h _) h2
theorem copiedO_ok(ha:SlR encI 1 3 h xa a.qubits)(hne:a.qubits≠[])(hl:a.qubits.length<=1000)
  (hR:∀y h',Fr h h' (fun _=>False)->SlL encI 1 3 h' y a.qubits->InS (h.next<=·) y->R (.ret (.agg (encO (a,y)))) h'):ACalls Try.prog 29 [.agg (encO (a,xa))] h M R:=by
 apply F29.callsN
 unfold F29.n3
 refine box_var (oneO ha) fun va h1 f1 hn1 hva=>?_
 simp only[eAlloc_d]
 refine⟨rfl,?_⟩
 have hvr:=AH.alloc_new h1 (mkO (([.int .i64 0,.string ⟨#[]⟩,.slice none 0 0,.int .i64 0,.bool false,.int .u64 0,.int .u64 0]:List Value).map AV.sc) 7 45)
 have f2:Fr h1 (h1.alloc (mkO (([.int .i64 0,.string ⟨#[]⟩,.slice none 0 0,.int .i64 0,.bool false,.int .u64 0,.int .u64 0]:List Value).map AV.sc) 7 45)) (fun _=>False):=Fr.refl.alloc _
 have hne2:va≠h1.next:=by have:=h1.lt _ _ hva;omega
 have hvrn:h.next<=h1.next:=f1.next
 generalize h1.alloc (mkO (([.int .i64 0,.string ⟨#[]⟩,.slice none 0 0,.int .i64 0,.bool false,.int .u64 0,.int .u64 0]:List Value).map AV.sc) 7 45)=h2 at *
 generalize h1.next=vr at *
 have hva:=f2.ob0 hva
 have f12:=f1.tr0 f2
 unfold F29.n2
 refine var_fld hva rfl fun _=>?_
 refine⟨fun _=>False,fun _ h=>h.elim,cloneI_ok (ha.fr0 f12) hne hl fun y h3 f3 hy hin=>?_⟩
 have hva:=f3.ob0 hva
 have hvr:=f3.ob0 hvr
 have f13:=f12.tr0 f3
 refine var_st hva (by simp[encO]) hy.toR.one.1 hy.toR.one.2 (.inr hn1) fun h4 f4 ho4=>?_
 have hvr4:=f4.obj hvr (fun e=>hne2 e.symm)
 unfold F29.n1
 refine var_ld ho4 rfl fun _=>?_
 simp only[eStore_f,hvr4,avC_agg,stk_mk]
 have hs:(encO (a,xa)).set 2 y=encO (a,y):=rfl
 rw[hs]
 refine⟨⟨.inr hvrn,encO_one (y:=(a,y)) hy.toR.one.1,rfl,by simp⟩,?_⟩
 have h5:(h4.put vr 0 (encO (a,y))).obj vr=some (mkO (encO (a,y)) 7 45):=by rw[put_row hvr4];rfl
 have f5:Fr h4 (h4.put vr 0 (encO (a,y))) (·=vr):=Fr.refl.put (.inl rfl)
 have f15:=fr_set (fr_set f13 hn1 f4) hvrn f5
 have hva0:=f3.ob0 (f2.ob0 (by assumption:h1.obj va=some (mkO (encO (a,xa)) 7 45)))
 have fin:=hR y _ f15 (slL_ne (slL_ne hy hva0 (by decide) f4) hvr4 (by decide) f5) fun id off n e=>zR f12.next (hin id off n e)
 simp only[retV,aResV,ag45,sz45]
 exact var_ld h5 rfl fun _=>fin
end
end
end Go.Proofs.Ytbdibjgoeeokoaa
namespace Go.Proofs
open Go.Shelf
def Try.grow_ren:Go.Shelf.Ren:={ f:=fun x=>match x with |4=>49 |n=>n,t:=fun x=>match x with |0=>0 |3=>3 |4=>4 |9=>9 |20=>20 |22=>22 |25=>45 |n=>n,g:=fun n=>n }
theorem Try.growL:Lays8.n4 Try.prog Try.grow_ren where
 mixed:=by kernel_rfl
 f4 := ⟨"slices.Grow[[]cubit/api.Op,cubit/api.Op]", by decide, Try.func49.trans (congrArg some (by kernel_rfl))⟩
 t0:=Try.underlying0
 a0:=Try.isAgg0
 z0:=Try.sizeOf0
 v0:=Try.zeroValue0
 t3:=Try.underlying3
 a3:=Try.isAgg3
 z3:=Try.sizeOf3
 v3:=Try.zeroValue3
 t4:=Try.underlying4
 a4:=Try.isAgg4
 z4:=Try.sizeOf4
 v4:=Try.zeroValue4
 t9:=Try.underlying9
 a9:=Try.isAgg9
 z9:=Try.sizeOf9
 v9:=Try.zeroValue9
 t20:=Try.underlying20
 a20:=Try.isAgg20
 z20:=Try.sizeOf20
 v20:=Try.zeroValue20
 t22:=Try.underlying22
 a22:=Try.isAgg22
 z22:=Try.sizeOf22
 v22:=Try.zeroValue22
end Go.Proofs
namespace Go.Proofs.Ytbdibjgoeeokoaa
section
open Go.Ab
attribute [-simp] eAlloc_d eStore_f
def infO(P:Program):Option (Nat×Nat×Nat):=(P.info? 45).bind fun i=>i.zero.map fun z=>(i.size,i.bytes,z.cells.size)
theorem inf45:infO Try.prog=some (7,80,7):=by kernel_rfl
theorem grow_ok{h:AH}{M:Nat->Prop}{R:AE->AH->Prop}{n:Nat}(hn:n<=1000000)(hR:∀y h',Fr h h' (fun _=>False)->SlL encO 7 45 h' y []->InS (h.next<=·) y->R (.ret y) h'):ACalls Try.prog 49 [nilS,I n] h M R:=by
 intro E w cargs hr ha
 cases ha with |cons a1 ha=>
 cases ha with |cons a2 ha=>
 cases ha
 cases a1
 cases a2
 by_cases h0:n=0
 ·subst h0
  refine(Any8.slices_Grow_room Try.growL none 0 0 0 w (by omega) (by omega) (by omega) (by omega)).mono ?_
  rintro e w' ⟨rfl,rfl⟩
  exact⟨E,h,.ret nilS,Step.refl hr,.sc _,hR _ _ Fr.refl .nil fun _ _ _ e=>nomatch e⟩
 ·obtain⟨i0,z,hi,hz,hs,hb,hzc⟩:∃i0 z,Try.prog.info? 45=some i0/\i0.zero=some z/\i0.size=7/\i0.bytes=80/\z.cells.size=7:=by
   have h1:=inf45
   unfold infO at h1
   obtain⟨i,hi,h2⟩:=Option.bind_eq_some_iff.1 h1
   obtain⟨z,hz,h3⟩:=Option.map_eq_some_iff.1 h2
   simp only[Prod.mk.injEq]at h3
   exact⟨i,z,hi,hz,h3.1,h3.2.1,h3.2.2⟩
  refine(Any8.slices_Grow_grow Try.growL i0 z hi hz (by omega) none 0 0 n [] w (by omega) (by omega) (by rw[hb];omega) (by omega) (by simp) (fun _=>rfl) (fun a e=>by cases e)).mono ?_
  rintro e w' ⟨he,hw⟩
  rw[show Try.grow_ren.t 25=45 from rfl]at he hw
  subst he hw
  have hge:=grownCap_ge w (0+n) 0 45
  have hle:=grownCap_le_maxLen w (0+n) 0 45 (by unfold maxLen;omega)
  show ∃E' h' ae,_
  generalize hG:grownCap w (0+n) 0 45=G at *
  have hbel:RowKit.Below w.heap.size w (w.drew.alloc (.cells (([]:List Value).toArray++Builtin.zeroCells z.cells (0+n-0)++Builtin.zeroCells z.cells (G-(0+n))) 45)):=((RowKit.Below.refl _ w).drew).alloc (zU _) _
  have hnew:=World.alloc_heap_new w.drew (.cells (([]:List Value).toArray++Builtin.zeroCells z.cells (0+n-0)++Builtin.zeroCells z.cells (G-(0+n))) 45)
  have hst:=step_row (M:=M) (sz:=7) (cells:=[]) hr hbel (g:=w.heap.size) (zU _) hnew (fun i c hi=>by simp at hi)
  refine⟨_,_,.ret (.sl h.next 0 0),hst,?_,hR _ _ (Fr.refl.alloc _) (.inr ⟨h.next,rfl,AH.alloc_new h _⟩) (fun id' off n e=>by cases e;exact zU _)⟩
  refine .sl (B:=⟨w.heap.size,_,7,0⟩) (o:=0) (by simp[Env.put];rfl) (.inl rfl) ?_ (Nat.zero_le _) hle
  simp only[Array.size_append,size_zeroCells,hzc]
  simp
  omega
end
section
open Go.Ab
attribute [-simp] eAlloc_d eStore_f
theorem encV_len(v:AV):(encV v).length=1:=rfl
theorem bldV2{xa xb:AV}(ha:avCells xa=some [xa])(hb:avCells xb=some [xb]):aFill (fun i=>some (i*1,1)) ([Value.slice none 0 0,.slice none 0 0].map .sc) [(0,xa),(1,xb)]=some [xa,xb]:=by
 simp only[aFill,ha,hb];rfl
section
variable {h:AH} {M:Nat->Prop} {R:AE->AH->Prop} {x xa xb:AV} {la lb:List (COp×AV)} {q b:Int}
theorem concat_ok(hx:SlR encV 1 22 h x [xa,xb])(ha:SlR encO 7 45 h xa la)(hb:SlR encO 7 45 h xb lb)(hla:la.length<=100000)(hlb:lb.length<=100000)
  (hR:∀y h',Fr h h' (fun _=>False)->SlL encO 7 45 h' y (la++lb)->InS (h.next<=·) y->R (.ret y) h'):ACalls Try.prog 31 [x] h M R:=by
 apply F31.callsN
 unfold F31.n20 F31.n19 F31.n18
 have hx2:(I ([xa,xb]:List AV).length:AV)=I 2:=rfl
 simp only[hx.len.1,hx.len.2,zH]
 rw[show(AV.sc (Value.int IntKind.i64 ([xa,xb]:List AV).length))=I 2 from rfl]
 unfold F31.n17
 refine vLoop_of (ι:=Nat) (fun i v h'=>v=[x,I ((if i=0 then 0 else if i=1 then la.length else la.length+lb.length:Nat):Int),x,I 2,I i]/\i<=2/\h'=h) (fun i=>2-i) 0 ⟨rfl,by omega,rfl⟩ ?_
 rintro K i v h' ⟨rfl,hi,rfl⟩ hK
 simp only[F31.g2_,zN,zO,F31.n16,pBin_lss]
 by_cases hlt:i<2
 ·have hli:(i:Int)<2:=by omega
  have w1:IntKind.i64.wrap ((i:Int)+1)=((i+1:Nat):Int):=by rw[wrap_in (by omega) (by omega)];simp
  simp only[zL hli,F31.n15,aIf_b,zD,zF,zC,zI]
  unfold F31.n14
  have h01:i=0\/i=1:=by omega
  rcases h01 with rfl |rfl
  ·refine rng_one (y:=xa) hx encV_len rfl rfl fun _=>?_
   have w2:IntKind.i64.wrap (((0:Nat):Int)+la.length)=la.length:=by rw[wrap_in (by omega) (by omega)];simp
   have nn:¬(la.length:Int)<0:=by omega
   unfold F31.n13
   simp only[ha.len.1,ha.len.2,zH,zV,pBin_add,w2,F31.n12,pBin_lss,zK nn,F31.n11,aIf_b,zD,zE,zC,zH,F31.n10,w1]
   exact hK 1 _ _ (by omega) ⟨rfl,by omega,rfl⟩
  ·refine rng_one (y:=xb) hx encV_len rfl rfl fun _=>?_
   have w2:IntKind.i64.wrap ((la.length:Int)+lb.length)=((la.length+lb.length:Nat):Int):=by rw[wrap_in (by omega) (by omega)];simp
   have nn:¬((la.length+lb.length:Nat):Int)<0:=by omega
   unfold F31.n13
   simp only[hb.len.1,hb.len.2,zH,Nat.one_ne_zero,if_false,zV,pBin_add,w2,F31.n12,pBin_lss,zK nn,F31.n11,aIf_b,zD,zE,zC,zH,F31.n10,w1]
   exact hK 2 _ _ (by omega) ⟨rfl,by omega,rfl⟩
 ·have hnl:¬(i:Int)<2:=by omega
  obtain rfl:i=2:=by omega
  simp only[zK hnl,F31.n15,aIf_b,zD,zE,zC,zH,zV,zN,zO]
  rw[show(if (2:Nat)=0 then 0 else if 2=1 then la.length else la.length+lb.length)=la.length+lb.length from rfl]
  unfold F31.n9
  refine⟨fun _=>False,fun _ h=>h.elim,grow_ok (by omega) fun y h1 f1 hy hin=>?_⟩
  unfold F31.n8
  have hx1:=hx.fr0 f1
  simp only[hx1.len.1,hx1.len.2,zH]
  rw[show(AV.sc (Value.int IntKind.i64 ([xa,xb]:List AV).length))=I 2 from rfl]
  unfold F31.n7
  refine vLoop_of (ι:=Nat) (fun i v h2=>∃acc,v=[acc,x,I 2,I i]/\i<=2/\Fr h' h2 (fun _=>False)/\SlL encO 7 45 h2 acc (if i=0 then[] else if i=1 then la else la++lb)/\InS (h'.next<=·) acc) (fun i=>2-i) 0 ⟨y,rfl,by omega,f1,hy,hin⟩ ?_
  rintro K2 i v h2 ⟨acc,rfl,hi2,f2,hacc,hina⟩ hK2
  simp only[F31.g1_,zN,zO,F31.n6,pBin_lss]
  by_cases hlt2:i<2
  ·have hli:(i:Int)<2:=by omega
   have w1:IntKind.i64.wrap ((i:Int)+1)=((i+1:Nat):Int):=by rw[wrap_in (by omega) (by omega)];simp
   simp only[zL hli,F31.n5,aIf_b,zD,zF,zC,zI]
   unfold F31.n4
   have nx:∀{y2:AV}{h3:AH}{l m:List (COp×AV)},SlL encO 7 45 h2 acc l->((y2=acc/\m=[])\/InS (h2.next<=·) y2)->Fr h2 h3 (fun i=>∃off n,acc=.sl i off n)->Fr h' h3 (fun _=>False)/\InS (h'.next<=·) y2:=fun hl hor f3=>
    ⟨f2.trans (f3.mono fun id ⟨off,n,e⟩=>.inr (hina id off n e)),fun id off n e=>by
     rcases hor with⟨e2,_⟩ |h4
     ·rw[e2]at e;exact hina id off n e
     ·exact zR f2.next (h4 id off n e)⟩
   have h01:i=0\/i=1:=by omega
   rcases h01 with rfl |rfl
   ·refine rng_one (y:=xa) (hx.fr0 f2) encV_len rfl rfl fun _=>?_
    unfold F31.n3
    refine appR encO_len (by decide) hacc (ha.fr0 f2) (fun id off n e=>.inr (hina id off n e)) (by simp;omega) fun y2 h3 hy2 hor f3=>?_
    obtain⟨f4,hin4⟩:=nx hacc hor f3
    simp only[F31.n2,pBin_add,w1]
    exact hK2 1 _ _ (by omega) ⟨y2,rfl,by omega,f4,by simpa using hy2,hin4⟩
   ·refine rng_one (y:=xb) (hx.fr0 f2) encV_len rfl rfl fun _=>?_
    unfold F31.n3
    refine appR encO_len (by decide) hacc (hb.fr0 f2) (fun id off n e=>.inr (hina id off n e)) (by simp;omega) fun y2 h3 hy2 hor f3=>?_
    obtain⟨f4,hin4⟩:=nx hacc hor f3
    simp only[F31.n2,pBin_add,w1]
    exact hK2 2 _ _ (by omega) ⟨y2,rfl,by omega,f4,by simpa using hy2,hin4⟩
  ·have hnl:¬(i:Int)<2:=by omega
   obtain rfl:i=2:=by omega
   simp only[zK hnl,F31.n5,aIf_b,zD,zE,zC,zH,zV,zN,zO]
   simp only[F31.n1]
   exact hR acc h2 f2 hacc hina
theorem then_ok(hx:OpsL h xa la)(hy:OpsL h xb lb)(ka:CK q b (la.map (·.1)))(kb:CK q b (lb.map (·.1)))
  (hR1:∀h' e,Fr h h' (fun _=>False)->e≠0->R (.ret (.tup [.agg [I 0,I 0,nilS],I e])) h')
  (hR2:∀h' xo yl,Fr h h' (fun _=>False)->CK q b (la.map (·.1)++lb.map (·.1))->OpsL h' xo yl->slShape xo yl.length->yl.map (·.1)=la.map (·.1)++lb.map (·.1)->R (.ret (.tup [.agg [I q,I b,xo],I 0])) h') :
  ACalls Try.prog 18 [.agg [I q,I b,xa],.agg [I q,I b,xb]] h M R:=by
 have sa:=ka.sm.of rfl
 have sb:=kb.sm.of rfl
 have na:=ka.n
 have nbb:=kb.n
 rw[zZ]at na nbb
 apply F18.callsN
 unfold F18.n29
 refine box_var (cs:=[I q,I b,xa]) (ones3 hx.tab.one.1) fun va h1 f1 hn1 hoa=>?_
 refine box_var (cs:=[I q,I b,xb]) (ones3 hy.tab.one.1) fun vb h2 f2 hn2 hob=>?_
 have hoa:=f2.ob0 hoa
 have f12:=f1.tr0 f2
 simp only[eAlloc_d]
 refine⟨rfl,?_⟩
 have hor:=AH.alloc_new h2 (mkO (([.int .i64 0,.int .i64 0,.slice none 0 0]:List Value).map AV.sc) 3 24)
 have f3:Fr h2 (h2.alloc (mkO (([.int .i64 0,.int .i64 0,.slice none 0 0]:List Value).map AV.sc) 3 24)) (fun _=>False):=Fr.refl.alloc _
 have hvr:h.next<=h2.next:=f12.next
 generalize h2.alloc (mkO (([.int .i64 0,.int .i64 0,.slice none 0 0]:List Value).map AV.sc) 3 24)=h3 at *
 generalize h2.next=vr at *
 have hoa:=f3.ob0 hoa
 have hob:=f3.ob0 hob
 have f13:=f12.tr0 f3
 unfold F18.n28
 refine var_ld hoa rfl fun _=>?_
 refine var_ld hob rfl fun _=>?_
 refine bsl2 (f:=fun v=>[I q,I b,v]) (s:=xa) (t:=xb) (fun _=>rfl) (by decide) rfl (ones3 hx.tab.one.1) (ones3 hy.tab.one.1) fun h4 hs4 f4=>?_
 have hoa:=f4.ob0 hoa
 have hob:=f4.ob0 hob
 have hor:=f4.ob0 hor
 have f14:=f13.tr0 f4
 generalize h3.next=z at *
 rw[show((strArg (.sl z 0 2)=false))=True from by simp[strArg]]
 simp only[zH,pLen]
 show F18.n27 _ _ _ _ _ _ _ _ _ (I 2) _ _
 unfold F18.n27
 refine vLoop_of (ι:=Nat) (fun i v h'=>v=[.ptr va 0,.ptr vb 0,.ptr vr 0,.sl z 0 2,I 2,I i]/\i<=2/\Fr h h' (fun _=>False)/\h'.obj va=some (mkO [I q,I b,xa] 3 24)/\h'.obj vb=some (mkO [I q,I b,xb] 3 24)/\h'.obj vr=some (mkO (([.int .i64 0,.int .i64 0,.slice none 0 0]:List Value).map AV.sc) 3 24) /\
  SlL (fun v=>[I q,I b,v]) 3 24 h' (.sl z 0 2) [xa,xb]) (fun i=>2-i) 0 ⟨rfl,by omega,f14,hoa,hob,hor,hs4⟩ ?_
 rintro K i v h5 ⟨rfl,hi,f5,hoa,hob,hor,hs5⟩ hK
 simp only[F18.g2_,zN,zO,F18.n26,pBin_lss]
 by_cases hlt:i<2
 ·have hli:(i:Int)<2:=by omega
  have w1:IntKind.i64.wrap ((i:Int)+1)=((i+1:Nat):Int):=by rw[wrap_in (by omega) (by omega)];simp
  simp only[zL hli,F18.n25,aIf_b,zD,zF,zC,zI]
  unfold F18.n24
  obtain⟨xc,lc,gi,hxc,kc⟩:∃xc lc,([xa,xb]:List AV)[i]?=some xc/\OpsL h xc lc/\CK q b (lc.map (·.1)):=by
   have h01:i=0\/i=1:=by omega
   rcases h01 with rfl |rfl
   ·exact⟨xa,la,rfl,hx,ka⟩
   ·exact⟨xb,lb,rfl,hy,kb⟩
  refine rng_var hs5.toR (fun _=>rfl) (ones3 hxc.tab.one.1) gi rfl rfl (fun id hid=>.inr (zR f5.next hid)) fun vi h6 f6 hn6 hoi=>?_
  have f56:=f5.tr0 f6
  unfold F18.n23
  refine var_ld hoi rfl fun _=>?_
  refine⟨fun _=>False,fun _ h=>h.elim,check_ok (hxc.fr0 f56) (fun y hy=>by have:=(kc.sm.of rfl).2 y hy;omega) fun h7 f7=>?_⟩
  rw[check_zero kc]
  have h00:((0:Int) != 0)=false:=rfl
  simp only[res2,pExt_tup,zA,zB,cellK_some,F18.n22,pBin_neq,h00,F18.n21,aIf_b,zD,zE,zC,zH,F18.n19,pBin_add,w1]
  exact hK (i+1) _ _ (by omega) ⟨rfl,by omega,f56.tr0 f7,f7.ob0 (f6.ob0 hoa),f7.ob0 (f6.ob0 hob),f7.ob0 (f6.ob0 hor),slL_f0 (slL_f0 hs5 f6) f7⟩
 have hnl:¬(i:Int)<2:=by omega
 simp only[zK hnl,F18.n25,aIf_b,zD,zE,zC,zH,zV,zN,zO]
 unfold F18.n18
 refine var_fld hoa rfl fun _=>?_
 refine var_fld hob rfl fun _=>?_
 simp only[pBin_neq,bne_self_eq_false]
 unfold F18.n17
 simp only[aIg_b,zT,zE,zD,zC,zH,zI,zF]
 refine var_fld hoa rfl fun _=>?_
 refine var_fld hob rfl fun _=>?_
 simp only[pBin_neq,bne_self_eq_false,F18.n16,pPick_b,zE,if_false,F18.n15,aIf_b,zD,zC,zH]
 unfold F18.n13
 refine var_fld hoa rfl fun _=>?_
 refine var_fld hoa rfl fun _=>?_
 refine⟨[I q,I b,nilS],rfl,?_⟩
 refine new_var (cs:=[I q,I b,nilS]) rfl rfl rfl rfl (fun id hid=>.inr (zR f5.next hid)) fun vd h6 f6 hn6 hod=>?_
 have f16:=f5.tr0 f6
 have hoa:=f6.ob0 hoa
 have hob:=f6.ob0 hob
 have hor:=f6.ob0 hor
 have hvd:h.next<=vd:=zR f5.next hn6
 have hdr:vr≠vd:=by have:=h5.lt vr _ (by assumption);omega
 unfold F18.n12
 refine var_fld hoa rfl fun _=>?_
 refine var_fld hob rfl fun _=>?_
 refine bsl_new (cells:=[xa,xb]) ⟨bldV2 hx.tab.one.2 hy.tab.one.2,by simp only[List.all_cons,hx.tab.one.1,hy.tab.one.1];rfl⟩ fun z2 h7 f7 hz2 hoz2=>?_
 have f17:=f16.tr0 f7
 refine⟨fun _=>False,fun _ h=>h.elim,concat_ok (xa:=xa) (xb:=xb) (.inr (.inr ⟨z2,[],false,22,rfl,fun _=>rfl,hoz2⟩)) (hx.fr0 f17).tab (hy.fr0 f17).tab (by omega) (by omega) fun yc h8 f8 hyc hinc=>?_⟩
 have f18:=f17.tr0 f8
 have hod:=f8.ob0 (f7.ob0 hod)
 have hor:=f8.ob0 (f7.ob0 hor)
 simp only[hyc.toR.len.1,hyc.toR.len.2,zH]
 have hlc:(la++lb).length=la.length+lb.length:=List.length_append
 have hqc:∀y∈la++lb,SlR encI 1 3 h y.2 y.1.qubits/\y.1.qubits≠[]/\y.1.qubits.length<=1000:=fun y hm=>by
  rcases List.mem_append.1 hm with hm |hm
  ·exact⟨hx.qs y hm,(ka.wo y hm).2.2,(ka.wo y hm).1.1⟩
  ·exact⟨hy.qs y hm,(kb.wo y hm).2.2,(kb.wo y hm).1.1⟩
 rw[<-List.map_append]at hR2
 generalize la++lb=lc at *
 unfold F18.n11
 refine vLoop_of (ι:=Nat) (fun i v h'=>∃acc L,v=[.ptr vr 0,.ptr vd 0,yc,I lc.length,I i]/\i<=lc.length/\Fr h h' (fun _=>False)/\h'.obj vd=some (mkO [I q,I b,acc] 3 24)/\h'.obj vr=some (mkO (([.int .i64 0,.int .i64 0,.slice none 0 0]:List Value).map AV.sc) 3 24) /\
  SlL encO 7 45 h' yc lc/\SlL encO 7 45 h' acc L/\InS (h8.next<=·) acc/\(∀y∈L,SlL encI 1 3 h' y.2 y.1.qubits)/\L.map (·.1)=(lc.take i).map (·.1)/\h8.next<=h'.next) (fun i=>lc.length-i) 0
  ⟨nilS,[],rfl,by omega,f18,hod,hor,hyc,.nil,(fun _ _ _ e=>nomatch e),(fun _ h=>by cases h),rfl,zU _⟩ ?_
 rintro K i v h9 ⟨acc,L,rfl,hi,f9,hod,hor,hyc,hacc,hin,hqs,he,hn9⟩ hK
 have hLn:L.length=i:=by
  have:=congrArg List.length he
  simp only[zZ,yA]at this;omega
 simp only[F18.g1_,zN,zO,F18.n10,pBin_lss]
 by_cases hlt:i<lc.length
 ·have hli:(i:Int)<lc.length:=by omega
  have w1:IntKind.i64.wrap ((i:Int)+1)=((i+1:Nat):Int):=by rw[wrap_in (by omega) (by omega)];simp
  have g0:lc[i]?=some lc[i]:=zJ hlt
  generalize lc[i]=y at *
  obtain⟨qy,qne,ql⟩:=hqc y (zP g0)
  have qy9:=qy.fr0 f9
  simp only[zL hli,F18.n9,aIf_b,zD,zF,zC,zI]
  unfold F18.n8
  refine rng_var hyc.toR encO_len (encO_one qy9.one.1) g0 rfl rfl (fun id hid=>.inr (zR f9.next hid)) fun vo h10 f10 hn10 hoo=>?_
  have f910:=f9.tr0 f10
  have hod:=f10.ob0 hod
  have hor:=f10.ob0 hor
  unfold F18.n7
  refine⟨fun _=>vd,fun _ _=>by rw[hod];simp,?_⟩
  refine var_fldI hod rfl ⟨rfl,?_⟩
  refine var_ld hoo rfl fun _=>?_
  refine⟨fun _=>False,fun _ h=>h.elim,copiedO_ok (qy9.fr0 f10) qne ql fun xq h11 f11 hxq hiq=>?_⟩
  have hod:=f11.ob0 hod
  have hor:=f11.ob0 hor
  have f911:=f910.tr0 f11
  have f10b:=f10.tr0 f11
  have hacc11:=slL_f0 hacc f10b
  refine app1t (f:=encO) (t:=(y.1,xq)) encO_len (by decide) rfl (by decide) (encO_one hxq.toR.one.1) hacc11 (fun id off n e=>.inr (zR f18.next (hin id off n e))) (by omega) fun y2 h12 hy2 hiy hfr hnx=>?_
  have f12':Fr h11 h12 (fun i=>∃off n,acc=.sl i off n):=⟨hnx,fun i hi hs=>hfr i hi fun off n e=>hs ⟨off,n,e⟩⟩
  have f912:Fr h h12 (fun _=>False):=f911.trans (f12'.mono fun id ⟨off,n,e⟩=>.inr (zR f18.next (hin id off n e)))
  have no:∀{i:Nat}{cs:List AV}{sz:Nat}{ty:TypeId},ty≠45->h11.obj i=some (mkO cs sz ty)->¬ ∃off n,acc=.sl i off n:=fun{i cs sz ty} ht hi2 ⟨off,n,e⟩=>by
   rcases hacc11 with⟨e2,_⟩ |⟨j,e2,hj⟩
   ·rw[e2]at e;cases e
   ·rw[e2]at e;cases e
    exact obj_ne hi2 hj ht rfl
  have hod12:=f12'.obj hod (no (by decide) hod)
  have hor12:=f12'.obj hor (no (by decide) hor)
  have hyc12:SlL encO 7 45 h12 yc lc:=(slL_f0 hyc f10b).of_fr f12' fun id e ⟨off,n,e2⟩=>by
   have h1:=slL_lt hyc _ _ _ e
   have h2:=hin _ _ _ e2
   have h3:=hinc _ _ _ e
   rcases hyc with⟨e3,_⟩ |⟨j,e3,hj⟩
   ·rw[e3]at e;cases e
   ·have h4:=slL_lt (by assumption:SlL encO 7 45 h8 yc lc) _ _ _ e
    omega
  have hyo:=hy2.toR.one
  refine var_st hod12 (by simp) hyo.1 hyo.2 (.inr hvd) fun h13 f13' hod13=>?_
  have hor13:=f13'.obj hor12 hdr
  simp only[F18.n6,pBin_add,w1]
  have kq:∀{x:AV}{l:List Int},SlL encI 1 3 h11 x l->SlL encI 1 3 h13 x l:=fun hs=>slL_ne (hs.of_fr f12' fun id e=>by
   rcases hs with⟨e2,_⟩ |⟨j,e2,hj⟩
   ·rw[e2]at e;cases e
   ·rw[e2]at e;cases e;exact no (by decide) hj) hod12 (by decide) f13'
  refine hK (i+1) _ _ (by omega) ⟨y2,L++[(y.1,xq)],rfl,by omega,fr_set f912 hvd f13',hod13,hor13,slL_ne hyc12 hod12 (by decide) f13',slL_ne hy2 hod12 (by decide) f13',fun id off n e=>by have:=hiy id off n e;have:=f10b.next;omega,fun w hw=>?_,?_,by have:=f10b.next;have:=f13'.next;omega⟩
  ·rcases List.mem_append.1 hw with hw |hw
   ·exact kq (slL_f0 (hqs w hw) f10b)
   ·simp only[List.mem_singleton]at hw
    subst hw
    exact kq hxq
  ·rw[List.map_append,he,List.take_add_one,List.map_append,g0];rfl
 ·have hnl:¬(i:Int)<lc.length:=by omega
  rw[List.take_of_length_le (by omega)]at he
  simp only[zK hnl,F18.n9,aIf_b,zD,zE,zC,zH,zV,zN,zO]
  have hxL:OpsL h9 acc L:=⟨hacc.toR,fun y hy=>(hqs y hy).toR⟩
  unfold F18.n5
  refine var_ld hod rfl fun _=>?_
  have hqL:∀y∈L,y.1.qubits.length<=9223372036854775807:=fun y hy=>by
   have:y.1∈lc.map (·.1):=by rw[<-he];exact List.mem_map_of_mem hy
   obtain⟨w,hw,e⟩:=List.mem_map.1 this
   rw[<-e];have:=(hqc w hw).2.2;omega
  refine⟨fun _=>False,fun _ h=>h.elim,check_ok hxL hqL fun h10 f10=>?_⟩
  have f910:=f9.tr0 f10
  have hod:=f10.ob0 hod
  have hor:=f10.ob0 hor
  simp only[res2,pExt_tup,zA,zB,cellK_some,F18.n4,pBin_neq,int_bne]
  by_cases hce:(checkP q b (L.map (·.1))).2=0
  ·have hkc:=check_iff.1 hce
   rw[he]at hkc
   simp only[zL hce,zS,F18.n3,aIf_b,zD,zE,zC,zH]
   unfold F18.n1
   refine var_ld hod rfl fun _=>?_
   simp only[eStore_f,hor,avC_agg,stk_mk]
   refine⟨⟨.inr hvr,ones3 hacc.toR.one.1,rfl,by simp⟩,?_⟩
   have o11:(h10.put vr 0 [I q,I b,acc]).obj vr=some (mkO [I q,I b,acc] 3 24):=by rw[put_row hor];rfl
   have f11:Fr h10 (h10.put vr 0 [I q,I b,acc]) (·=vr):=Fr.refl.put (.inl rfl)
   have fin:=hR2 _ acc L (fr_set f910 hvr f11) hkc (ops_set hor f11 (hxL.fr0 f10)) (slL_shape hacc) he
   simp only[retV,aResV,ag24,sz24]
   exact var_ld o11 rfl fun _=>fin
  ·simp only[zK hce,zT,F18.n3,aIf_b,zD,zF,zC,zI]
   unfold F18.n2
   refine⟨_,bldC0,?_⟩
   simp only[eStore_f,hor,avC_agg,stk_mk]
   refine⟨⟨.inr hvr,rfl,rfl,by simp⟩,?_⟩
   have o11:(h10.put vr 0 [I 0,I 0,nilS]).obj vr=some (mkO [I 0,I 0,nilS] 3 24):=by rw[put_row hor];rfl
   have f11:Fr h10 (h10.put vr 0 [I 0,I 0,nilS]) (·=vr):=Fr.refl.put (.inl rfl)
   have fin:=hR1 _ _ (fr_set f910 hvr f11) hce
   simp only[retV,aResV,ag24,sz24]
   exact var_ld o11 rfl fun _=>fin
end
end
end Go.Proofs.Ytbdibjgoeeokoaa
namespace Go.Ab
open Go
variable {P:Program} {N:Nat}
def WF(F:Fence):Prop:=F=Fence.wide\/∃r,F=Fence.wide.inRound r
theorem WF.depth{F:Fence}(h:WF F):F.depth=none:=by
 rcases h with rfl |⟨r,rfl⟩<;>rfl
theorem WF.fn{F:Fence}(h:WF F)(f:FuncId):F.fn f:=by
 rcases h with rfl |⟨r,rfl⟩<;>trivial
theorem WF.calls{F:Fence}(h:WF F){n:Nat}{f:FuncId}{args:Array Value}{w:World}{R:Ending->World->Prop}(hc:Calls P f args w R):CallsIn F n P f args w R:=by
 rcases h with rfl |⟨r,rfl⟩
 ·exact callsIn_wide.2 hc
 ·exact(callsIn_wide (n:=n)).2 hc
theorem WF.rows{F:Fence}(h:WF F){n:Nat}{row:String}{args:Array Value}{w:World}{R:Value->World->Prop}(hc:Rows P row args w R):RowsIn F n P row args w R:=by
 intro c cs _
 obtain⟨v,w',r,s⟩:=hc c cs
 rcases h with rfl |⟨r',rfl⟩
 ·exact⟨v,w',r,stepsIn_wide.2 s⟩
 ·exact⟨v,w',r,(stepsIn_wide (P:=P)).2 s⟩
theorem opsIn_of{F:Fence}(hF:WF F){n:Nat}{ops:Array Oper}(hd:∀(i:Nat)(o:Oper),ops[i]?=some o->noDefO o=true){Q1 Q:Exit->Act->World->Prop}{ds:List Deferred}{l2:List Nat}
  (hN:∀a w,Q1 .normal a w->wpOpsIn F n P ops Q l2 ⟨a.tmps,a.defers++ds⟩ w) (hE:∀e a w,e≠.normal->¬Q1 e a w) :
  ∀(l1:List Nat)(a:Act)(w:World),wpOps P ops Q1 l1 a w->wpOpsIn F n P ops Q (l1++l2) ⟨a.tmps,a.defers++ds⟩ w
 |[],a,w,h=>hN a w h
 |i::rest,a,w,h=>by
  simp only[wpOps]at h
  simp only[List.cons_append,wpOpsIn]
  cases ho:ops[i]? with
  |none=>
   simp only[ho]at h
   exact opsIn_of hF hd hN hE rest a w h
  |some o=>
   simp only[ho]at h
   have hput:∀(a:Act)(v:Value),({ tmps:=a.tmps,defers:=a.defers++ds }:Act).put o.dst v=⟨(a.put o.dst v).tmps,(a.put o.dst v).defers++ds⟩:=fun a v=>by
    unfold Act.put;cases o.dst<;>rfl
   by_cases hw:Region.wanted o (yielded ops a.tmps)=true
   ·simp only[hw,zV]at h ⊢
    rcases h with h |⟨_,a2,w2,h⟩
    ·refine⟨fun f _=>hF.fn f,?_⟩
     have hnd:∀c,o.op≠.defer c:=fun c e=>by
      have:=hd i o ho
      unfold noDefO at this
      rw[e]at this;cases this
     rw[Oper.semAt_eq _ _ _ hnd]
     have hev:({ tmps:=a.tmps,defers:=a.defers++ds }:Act).eval=a.eval:=by funext x;cases x<;>rfl
     rw[hev]
     unfold Oper.wp at h
     have hdep:F.depth.isSome=true->1<=n:=fun h=>by rw[hF.depth]at h;cases h
     revert h
     generalize (execOp a.eval o).run P w=res
     intro h
     match res,h with
     |.ok (.value v) w',h=>
      rw[Oper.uponIn_value,hput]
      exact opsIn_of hF hd hN hE rest _ _ h
     |.ok .skip w',h=>
      rw[Oper.uponIn_skip,hput]
      exact opsIn_of hF hd hN hE rest _ _ h
     |.ok (.defer d) w',h=>
      rw[Oper.uponIn_defer]
      have:=opsIn_of hF hd hN hE rest _ _ h
      have e2:({ tmps:=a.tmps,defers:=d::(a.defers++ds) }:Act).put o.dst undef=⟨(({ a with defers:=d::a.defers }:Act).put o.dst undef).tmps,(({ a with defers:=d::a.defers }:Act).put o.dst undef).defers++ds⟩:=by
       unfold Act.put;cases o.dst<;>rfl
      rw[e2];exact this
     |.ok (.enter f args) w',h=>
      rw[Oper.uponIn_enter]
      refine⟨hdep,hF.calls ?_⟩
      rw[Oper.upon_enter]at h
      refine h.mono fun e w2 hq=>?_
      cases e with
      |returned v=>
       show wpOpsIn F n P ops Q (rest++l2) (({ tmps:=a.tmps,defers:=a.defers++ds }:Act).put o.dst v) w2
       rw[hput]
       exact opsIn_of hF hd hN hE rest _ _ hq
      |panicked c=>exact absurd hq (hE _ _ _ (by simp))
      |outgrown=>
       obtain⟨a2,w2,hq⟩:=hq
       exact absurd hq (hE _ _ _ (by simp))
     |.ok (.row row args) w',h=>
      rw[Oper.uponIn_row]
      refine⟨hdep,hF.rows ?_⟩
      rw[Oper.upon_row]at h
      refine h.mono fun v w2 hq=>?_
      rw[hput]
      exact opsIn_of hF hd hN hE rest _ _ hq
     |.halt (.panic v) w',h=>exact absurd h (hE _ _ _ (by simp))
    ·exact absurd h (hE _ _ _ (by simp))
   ·simp only[hw,if_false,zE]at h ⊢
    refine⟨fun f _=>hF.fn f,?_⟩
    rw[hput]
    exact opsIn_of hF hd hN hE rest _ _ h
theorem opsT{F:Fence}(hF:WF F){n:Nat}{ops:Array Oper}(hd:ops.all noDefO=true){Q:Exit->Act->World->Prop}{E:Env}{h:AH}{w:World}{s:St}{t:Array Value}{ds:List Deferred}{W:Nat->Prop}
  {K:St->AH->Prop} {l1 l2:List Nat} (hr:Rel E h w) (ha:AR E N s ⟨t,[]⟩) (hp:evS P N W ops l1 (fun s' h'=>s'.ds=[]/\K s' h') (fun _ _ _=>False) s h)
  (hK:∀s' h' E' w' t',K s' h'->Step E h W w E' h' w'->AR E' N s' ⟨t',[]⟩->wpOpsIn F n P ops Q l2 ⟨t',ds⟩ w'):wpOpsIn F n P ops Q (l1++l2) ⟨t,ds⟩ w:=by
 have h1:=evS_ok (Qc:=fun e a1 w1=>e=.normal/\a1.defers=[]/\wpOpsIn F n P ops Q l2 ⟨a1.tmps,ds⟩ w1) hr (fun s' h' E' w' a' ⟨hs0,hk⟩ hst ha'=>by
  have hd0:a'.defers=[]:=by
   have:=ha'.ds
   rw[hs0]at this
   generalize a'.defers=q at this
   cases this;rfl
  refine⟨rfl,hd0,hK s' h' E' w' a'.tmps hk hst ?_⟩
  have:a'=⟨a'.tmps,[]⟩:=by cases a';simp only at hd0;rw[hd0]
  rw[<-this];exact ha') (fun _ _ _ _ _ _ _ hf=>hf.elim) l1 s h E w ⟨t,[]⟩ hp (Step.refl hr) ha
 have hd':∀(i:Nat)(o:Oper),ops[i]?=some o->noDefO o=true:=fun i o ho=>by
  rw[Array.all_eq_true]at hd
  obtain⟨hi,he⟩:=Array.getElem?_eq_some_iff.1 ho
  rw[<-he];exact hd i hi
 have h2:=opsIn_of (ds:=ds) (l2:=l2) (Q:=Q) (n:=n) hF hd' (fun a w h=>by
  obtain⟨_,h3,h4⟩:=h
  rw[h3];exact h4) (fun e a w he h=>he h.1) l1 _ _ h1
 exact h2
theorem rgnT{F:Fence}(hF:WF F){n id:Nat}{ops:Array Oper}(hd:ops.all noDefO=true){Q:Exit->Act->World->Prop}{E:Env}{h:AH}{w:World}{s:St}{t:Array Value}{ds:List Deferred}{W:Nat->Prop}
  {K:St->AH->Prop} (hr:Rel E h w) (ha:AR E N s ⟨t,[]⟩) (hp:evS P N W ops (List.range ops.size) (fun s' h'=>s'.ds=[]/\K s' h') (fun _ _ _=>False) s h)
  (hK:∀s' h' E' w' t',K s' h'->Step E h W w E' h' w'->AR E' N s' ⟨t',[]⟩->Q .normal ⟨t',ds⟩ w'):(Code.region id ops false).wpIn F n P Q ⟨t,ds⟩ w:=by
 refine wpIn_region ?_
 have:=opsT (l2:=[]) (Q:=Q) (ds:=ds) (n:=n) hF hd hr ha hp fun s' h' E' w' t' hk hst ha'=>hK s' h' E' w' t' hk hst ha'
 rwa [List.append_nil]at this
def NI(E:Env)(h:AH)(l:Nat):Prop:=∀id o B,h.obj id=some o->E id=some B->B.b≠l
theorem Rel.not_cells{E:Env}{h:AH}{w:World}{l:Nat}(hr:Rel E h w)(hl:∀arr T fz,w.heap[l]?≠some (.cells arr T fz)){id:Nat}{o:AO}{B:Blk}(ho:h.obj id=some o)(hk:o.kind=.row)(hB:E id=some B):B.b≠l:=fun e=>by
 obtain⟨B',hB',hO⟩:=hr.obj id o ho
 rw[hB]at hB';cases hB'
 obtain⟨arr,fz,h1,_⟩:=hO.row hk
 rw[e]at h1
 exact hl _ _ _ h1
def AH.cut(h:AH)(E:Env)(l:Nat):AH where
 obj id:=match E id with
  |some B=>if B.b=l then none else h.obj id
  |none=>none
 next:=h.next
 lt id o hi:=by
  split at hi
  ·split at hi
   ·cases hi
   ·exact h.lt _ _ hi
  ·cases hi
theorem AH.cut_some{h:AH}{E:Env}{l id:Nat}{o:AO}(hi:(h.cut E l).obj id=some o):h.obj id=some o/\∃B,E id=some B/\B.b≠l:=by
 simp only[AH.cut]at hi
 split at hi
 ·rename_i B hB
  split at hi
  ·cases hi
  ·rename_i hne;exact⟨hi,B,hB,hne⟩
 ·cases hi
theorem AH.cut_of{h:AH}{E:Env}{l id:Nat}{o:AO}{B:Blk}(ho:h.obj id=some o)(hB:E id=some B)(hne:B.b≠l):(h.cut E l).obj id=some o:=by
 simp only[AH.cut,hB,zW hne,ho]
structure Same (n:Nat) (h h2:AH):Prop where
 next:h2.next=h.next
 row:∀id o,h.obj id=some o->o.kind=.row->h2.obj id=some o
 old:∀id,id<n->h2.obj id=h.obj id
theorem Same.trans{n:Nat}{a b c:AH}(x:Same n a b)(y:Same n b c):Same n a c:=⟨y.next.trans x.next,fun id o ho hk=>y.row id o (x.row id o ho hk) hk,fun id hi=>(y.old id hi).trans (x.old id hi)⟩
theorem Same.fr{h h1 h2:AH}{S:Nat->Prop}(x:Same h.next h1 h2)(f:Fr h h1 S):Fr h h2 S:=⟨by rw[x.next];exact f.next,fun id hi hs=>by rw[x.old id hi];exact f.keep id hi hs⟩
theorem Same.slL{α:Type}{f:α->List AV}{sz:Nat}{ty:TypeId}{n:Nat}{h h2:AH}{x:AV}{l:List α}(a:Same n h h2)(s:SlL f sz ty h x l):SlL f sz ty h2 x l:=by
 rcases s with s |⟨id,e,ho⟩
 ·exact .inl s
 ·exact .inr ⟨id,e,a.row _ _ ho rfl⟩
theorem cut_step{E E':Env}{h h':AH}{M:Nat->Prop}{w w':World}{l:Nat}(hn:NI E h l)(hr:Rel E h w)(hst:Step E h M w E' h' w')(hl:l<w.heap.size)(hob:∀arr T fz,w.heap[l]?≠some (.cells arr T fz)) :
  Step E h M w E' (h'.cut E' l) w'/\NI E' (h'.cut E' l) l/\Same h.next h' (h'.cut E' l)/\w'.heap[l]?=w.heap[l]?:=by
 have hfr:w'.heap[l]?=w.heap[l]?:=hst.frame l hl fun id B o _ ho _ hB=>hn id o B ho hB
 have hob':∀arr T fz,w'.heap[l]?≠some (.cells arr T fz):=fun arr T fz=>by rw[hfr];exact hob arr T fz
 have hold:∀id,id<h.next->(h'.cut E' l).obj id=h'.obj id:=fun id hlt=>by
  cases ho:h'.obj id with
  |none=>
   cases hc:(h'.cut E' l).obj id with
   |none=>rfl
   |some o=>have:=(AH.cut_some hc).1;rw[ho]at this;cases this
  |some o=>
   cases hob2:h.obj id with
   |none=>have:=hst.dead id hlt hob2;rw[ho]at this;cases this
   |some o0=>
    obtain⟨B0,hB0,_⟩:=hr.obj id o0 hob2
    exact AH.cut_of ho (hst.env id B0 hB0) (hn id o0 B0 hob2 hB0)
 refine⟨⟨hst.env,⟨fun id o ho=>?_,fun i j oi oj Bi Bj h1 h2=>hst.rel.inj i j oi oj Bi Bj (AH.cut_some h1).1 (AH.cut_some h2).1,hst.rel.fresh⟩,hst.next,fun id hlt hm=>by rw[hold id hlt];exact hst.keep id hlt hm,fun id hlt h0=>by rw[hold id hlt];exact hst.dead id hlt h0,
  hst.os,hst.tape,hst.output,hst.size,hst.frame,fun id B o ho=>hst.orig id B o (AH.cut_some ho).1,fun id o o' h1 h2=>hst.rok id o o' h1 (AH.cut_some h2).1⟩,?_,⟨rfl,fun id o ho hk=>?_,hold⟩,hfr⟩
 ·exact hst.rel.obj id o (AH.cut_some ho).1
 ·intro id o B ho hB
  obtain⟨_,B',hB',hne⟩:=AH.cut_some ho
  rw[hB]at hB';cases hB';exact hne
 ·obtain⟨B,hB,_⟩:=hst.rel.obj id o ho
  exact AH.cut_of ho hB (hst.rel.not_cells hob' ho hk hB)
theorem NI.cut{E:Env}{h:AH}{l l':Nat}(hn:NI E h l):NI E (h.cut E l') l:=fun id o B ho hB=>hn id o B (AH.cut_some ho).1 hB
structure ST (E:Env) (h:AH) (W:World) (l D:Nat) (r:Loop):Prop where
 rel:Rel E h W
 nl:NI E h l
 nD:NI E h D
 lb:W.heap[l]?=some (.loop r)
 db:W.heap[D]?=some (.deferred (some []))
theorem lt_of_get{W:World}{l:Nat}{o:Go.Obj}(h:W.heap[l]?=some o):l<W.heap.size:=(Array.getElem?_eq_some_iff.1 h).1
theorem ST.step{E E':Env}{h h':AH}{M:Nat->Prop}{W W':World}{l D:Nat}{r:Loop}(a:ST E h W l D r)(hst:Step E h M W E' h' W') :
  ∃h2,Step E h M W E' h2 W'/\ST E' h2 W' l D r/\Same h.next h' h2:=by
 obtain⟨s1,n1,m1,f1⟩:=cut_step a.nl a.rel hst (lt_of_get a.lb) (fun _ _ _=>by rw[a.lb];simp)
 obtain⟨s2,n2,m2,f2⟩:=cut_step a.nD a.rel s1 (lt_of_get a.db) (fun _ _ _=>by rw[a.db];simp)
 exact⟨_,s2,⟨s2.rel,n1.cut,n2,f1.trans a.lb,f2.trans a.db⟩,m1.trans m2⟩
theorem Rel.put{E:Env}{h:AH}{W:World}{l:Nat}(hr:Rel E h W)(hn:NI E h l)(o:Go.Obj):Rel E h (W.putObj l o):=
 ⟨fun id o' ho=>by
  obtain⟨B,hB,hO⟩:=hr.obj id o' ho
  exact⟨B,hB,hO.mono (fun _ _ h=>h) (World.putObj_heap_other (hn id o' B ho hB))⟩,hr.inj,hr.fresh⟩
theorem ST.put{E:Env}{h:AH}{W:World}{l D:Nat}{r r':Loop}(a:ST E h W l D r)(hne:D≠l):ST E h (W.putObj l (.loop r')) l D r':=
 ⟨a.rel.put a.nl _,a.nl,a.nD,World.putObj_heap_same (lt_of_get a.lb),(World.putObj_heap_other hne).trans a.db⟩
theorem Step.put{E0 E:Env}{h0 h:AH}{M:Nat->Prop}{w0 W:World}{l:Nat}(hs:Step E0 h0 M w0 E h W)(hn:NI E h l)(hl:w0.heap.size<=l)(o:Go.Obj):Step E0 h0 M w0 E h (W.putObj l o):=
 ⟨hs.env,hs.rel.put hn o,hs.next,hs.keep,hs.dead,hs.os,hs.tape,hs.output,by simpa using hs.size,fun b hb hno=>(World.putObj_heap_other (by omega)).trans (hs.frame b hb hno),hs.orig,hs.rok⟩
theorem Step.more{E0 E:Env}{h0 h:AH}{M:Nat->Prop}{w0 W:World}(hs:Step E0 h0 M w0 E h W)(o:Go.Obj):Step E0 h0 M w0 E h (W.alloc o)/\NI E h W.heap.size:=by
 have hold:∀k,k<W.heap.size->(W.alloc o).heap[k]?=W.heap[k]?:=fun k hk=>RowKit.Below.heap_alloc _ _ _ hk
 have hlt:∀id o' B,h.obj id=some o'->E id=some B->B.b<W.heap.size:=fun id o' B ho hB=>by
  obtain⟨B',hB',hO⟩:=hs.rel.obj id o' ho
  rw[hB]at hB';cases hB'
  exact hO.lt
 refine⟨⟨hs.env,⟨fun id o' ho=>?_,hs.rel.inj,hs.rel.fresh⟩,hs.next,hs.keep,hs.dead,hs.os,hs.tape,hs.output,by have:=hs.size;simp;omega,fun b hb hno=>(hold b (by have:=hs.size;omega)).trans (hs.frame b hb hno),hs.orig,hs.rok⟩,fun id o' B ho hB e=>by have:=hlt id o' B ho hB;omega⟩
 obtain⟨B,hB,hO⟩:=hs.rel.obj id o' ho
 exact⟨B,hB,hO.mono (fun _ _ h=>h) (hold _ hO.lt)⟩
end Go.Ab
namespace Go.Proofs.Ytbdibjgoeeokoaa
section
open Go.Ab Go
attribute [-simp] eAlloc_d eStore_f
def sp(s:St)(d:Nat)(v:AV):St:=⟨upd s.tm d v,s.ds⟩
def KF:St->AV->AH->Prop:=fun _ _ _=>False
noncomputable def c17:Code:=(Try.f17.body).getD .skip
noncomputable def c47:Code:=(Try.f47.body).getD .skip
def rfA:Code->Code
 |.rangeFunc _ _ a _=>a
 |c=>c
def rfB:Code->Code
 |.rangeFunc _ _ _ b=>b
 |c=>c
noncomputable def rf17:Code:=Code.at c17 [1,1,1,1,1,0,1,0]
noncomputable def o17(p:List Nat):Array Oper:=regOps (Code.at c17 p)
noncomputable def oB(p:List Nat):Array Oper:=regOps (Code.at (rfB rf17) p)
noncomputable def oA:Array Oper:=regOps (rfA rf17)
noncomputable def o47(p:List Nat):Array Oper:=regOps (Code.at c47 p)
theorem rf17_eq:rf17=.rangeFunc (.tmp 29) #[30,31] (rfA rf17) (rfB rf17):=by kernel_rfl
theorem rfA_eq:rfA rf17=.region 8 oA false:=by kernel_rfl
theorem rfB_eq:rfB rf17=.block 1 (.seq (.region 9 (oB [0,0]) false) (.seq (.region 10 (oB [0,1,0]) false) (.region 11 (oB [0,1,1]) false))):=by kernel_rfl
theorem c17_eq:c17=.seq (.region 0 (o17 [0]) false) (.seq (.region 1 (o17 [1,0]) false) (.seq (.seq (.region 2 (o17 [1,1,0,0]) false) (.cond (.tmp 16) (Code.at c17 [1,1,0,1,0]) .skip)) (.seq (.seq (.region 4 (o17 [1,1,1,0,0]) false) (.cond (.tmp 20) (Code.at c17 [1,1,1,0,1,0]) .skip))
  (.seq (.region 6 (o17 [1,1,1,1,0]) false) (.seq (.seq (.region 7 (o17 [1,1,1,1,1,0,0]) false) (.block 0 rf17)) (.seq (.region 12 (o17 [1,1,1,1,1,1,0]) false) .ret)))))):=by kernel_rfl
theorem c47_eq:c47=.seq (.region 0 (o47 [0]) false) (.block 0 (.loop (.seq (.seq (.region 1 (o47 [1,0,0,0,0]) false) (.cond (.tmp 8) .skip (.exit 0))) (.seq (.block 1 (.seq (.region 3 (o47 [1,0,0,1,0,0,0]) false) (.cond (.tmp 18) .ret .skip))) (.region 2 (o47 [1,0,0,1,1]) false))))):=by kernel_rfl
abbrev zOp:List Value:=[.int .i64 0,.string ⟨#[]⟩,.slice none 0 0,.int .i64 0,.bool false,.int .u64 0,.int .u64 0]
abbrev zCi:List Value:=[.int .i64 0,.int .i64 0,.slice none 0 0]
section
variable {W:Nat->Prop} {K:St->AH->Prop} {s:St} {h:AH}
theorem e0:evS Try.prog 48 W (o17 [0]) (List.range (o17 [0]).size) K KF s h=(eBox 3 24 (s.tm 0) h fun t1 h1=>eAlloc (some zCi) 3 24 h1 fun t2 h2=>K (sp (sp (sp s 1 t1) 2 t2) 3 (I 0)) h2):=by kernel_rfl
theorem e1:evS Try.prog 48 W (o17 [1,0]) (List.range (o17 [1,0]).size) K KF s h=(lLd (some true) (some 3) (s.tm 1) h fun t11 _=>aCall Try.prog W 25 [t11,.fn (.func 27) [] []] h (fun t12 h1=>pExt t12 0 fun t13=>pExt t12 1 fun t14=>K (sp (sp (sp (sp (sp (sp (sp s 11 t11) 12 t12) 10 t12) 13 t13) 14 t14) 4 t13) 5 t14) h1) fun _ _=>False):=by kernel_rfl
theorem e2:evS Try.prog 48 W (o17 [1,1,0,0]) (List.range (o17 [1,1,0,0]).size) K KF s h=(pBin Try.prog .neq 30 true (s.tm 5) (I 0) fun t16=>K (sp (sp s 15 (s.tm 5)) 16 t16) h):=by kernel_rfl
theorem e4:evS Try.prog 48 W (o17 [1,1,1,0,0]) (List.range (o17 [1,1,1,0,0]).size) K KF s h=(pUn .not (s.tm 4) fun t20=>K (sp (sp s 19 (s.tm 4)) 20 t20) h):=by kernel_rfl
theorem e6:evS Try.prog 48 W (o17 [1,1,1,1,0]) (List.range (o17 [1,1,1,1,0]).size) K KF s h=(pFld (some 0) (s.tm 1) fun t22=>lLd (some false) (some 1) t22 h fun t23 _=>pFld (some 1) (s.tm 1) fun t24=>lLd (some false) (some 1) t24 h fun t25 _=>pBld (some (zCi,.inl [(0,1),(1,1),(2,1)])) [(0,t23),(1,t25)] fun t26=>eAlloc (some zCi) 3 24 h fun t6 h1=>eStore (some 3) t6 t26 h1 W fun h2=>K (sp (sp (sp (sp (sp (sp s 22 t22) 23 t23) 24 t24) 25 t25) 26 t26) 6 t6) h2):=by kernel_rfl
theorem e7:evS Try.prog 48 W (o17 [1,1,1,1,1,0,0]) (List.range (o17 [1,1,1,1,1,0,0]).size) K KF s h=(pFld (some 2) (s.tm 1) fun t27=>lLd (some false) (some 1) t27 h fun t28 _=>aCall Try.prog W 28 [t28] h (fun t29 h1=>K (sp (sp (sp s 27 t27) 28 t28) 29 t29) h1) fun _ _=>False):=by kernel_rfl
theorem e12:evS Try.prog 48 W (o17 [1,1,1,1,1,1,0]) (List.range (o17 [1,1,1,1,1,1,0]).size) K KF s h=(lLd (some true) (some 3) (s.tm 6) h fun t47 _=>eStore (some 3) (s.tm 2) t47 h W fun h1=>K (sp (sp s 47 t47) 3 (I 0)) h1):=by kernel_rfl
theorem e8:evS Try.prog 48 W oA (List.range oA.size) K KF s h=(eAlloc (some zOp) 7 45 h fun t8 h1=>eStore (some 7) t8 (s.tm 31) h1 W fun h2=>K (sp s 8 t8) h2):=by kernel_rfl
theorem e9:evS Try.prog 48 W (oB [0,0]) (List.range (oB [0,0]).size) K KF s h=(lLd (some true) (some 7) (s.tm 8) h fun t32 _=>aCall Try.prog W 29 [t32] h (fun t33 h1=>eAlloc (some zOp) 7 45 h1 fun t9 h2=>eStore (some 7) t9 t33 h2 W fun h3=>K (sp (sp (sp s 32 t32) 33 t33) 9 t9) h3) fun _ _=>False):=by kernel_rfl
theorem e10:evS Try.prog 48 W (oB [0,1,0]) (List.range (oB [0,1,0]).size) K KF s h=(pFld (some 1) (s.tm 8) fun t35=>lLd (some false) (some 1) t35 h fun t36 _=>aCall Try.prog W 30 [t36] h (fun t37 h1=>pExt t37 0 fun t38=>pExt t37 1 fun t39=>pFld (some 1) (s.tm 9) fun t40=>eStore (some 1) t40 t38 h1 W fun h2=>K (sp (sp (sp (sp (sp (sp (sp s 35 t35) 36 t36) 37 t37) 34 t37) 38 t38) 39 t39) 40 t40) h2) fun _ _=>False):=by kernel_rfl
theorem e11:evS Try.prog 48 W (oB [0,1,1]) (List.range (oB [0,1,1]).size) K KF s h=(pFld (some 2) (s.tm 6) fun t41=>lLd (some false) (some 1) t41 h fun t42 _=>lLd (some true) (some 7) (s.tm 9) h fun t43 _=>eBSl (some (7,45,zOp)) 1 [(0,t43)] h fun t44 h1=>eApp (some (7,80,45)) t42 t44 h1 W fun t45 h2=>pFld (some 2) (s.tm 6) fun t46=>eStore (some 1) t46 t45 h2 W fun h3=>K (sp (sp (sp (sp (sp (sp s 41 t41) 42 t42) 43 t43) 44 t44) 45 t45) 46 t46) h3):=by kernel_rfl
theorem k0:evS Try.prog 19 W (o47 [0]) (List.range (o47 [0]).size) K KF s h=(lLd (some false) (some 1) (s.tm 1) h fun t4 _=>(strArg t4=false)/\pLen t4 fun t5=>pBin Try.prog .sub 3 true t5 (I 1) fun t6=>K (sp (sp (sp (sp s 4 t4) 5 t5) 6 t6) 3 t6) h):=by kernel_rfl
theorem k1:evS Try.prog 19 W (o47 [1,0,0,0,0]) (List.range (o47 [1,0,0,0,0]).size) K KF s h=(pBin Try.prog .geq 3 true (s.tm 3) (I 0) fun t8=>K (sp (sp s 7 (s.tm 3)) 8 t8) h):=by kernel_rfl
theorem k2:evS Try.prog 19 W (o47 [1,0,0,1,1]) (List.range (o47 [1,0,0,1,1]).size) K KF s h=(pBin Try.prog .sub 3 true (s.tm 3) (I 1) fun t10=>K (sp (sp (sp s 9 (s.tm 3)) 10 t10) 3 t10) h):=by kernel_rfl
theorem k3:evS Try.prog 19 W (o47 [1,0,0,1,0,0,0]) [0,1,2,3,4,5] K KF s h=(lLd (some false) (some 1) (s.tm 1) h fun t13 _=>pIxA (some (7,none)) t13 (s.tm 3) fun t15=>lLd (some true) (some 7) t15 h fun t16 _=>K (sp (sp (sp (sp (sp (sp s 11 (s.tm 0)) 12 (s.tm 3)) 13 t13) 14 (s.tm 3)) 15 t15) 16 t16) h):=by kernel_rfl
theorem k3b:evS Try.prog 19 W (o47 [1,0,0,1,0,0,0]) [7] K KF s h=(pUn .not (s.tm 17) fun t18=>K (sp s 18 t18) h):=by kernel_rfl
end
theorem nd17_0:(o17 [0]).all noDefO=true:=by kernel_rfl
theorem nd17_1:(o17 [1,0]).all noDefO=true:=by kernel_rfl
theorem nd17_2:(o17 [1,1,0,0]).all noDefO=true:=by kernel_rfl
theorem nd17_4:(o17 [1,1,1,0,0]).all noDefO=true:=by kernel_rfl
theorem nd17_6:(o17 [1,1,1,1,0]).all noDefO=true:=by kernel_rfl
theorem nd17_7:(o17 [1,1,1,1,1,0,0]).all noDefO=true:=by kernel_rfl
theorem nd17_12:(o17 [1,1,1,1,1,1,0]).all noDefO=true:=by kernel_rfl
theorem ndA:oA.all noDefO=true:=by kernel_rfl
theorem ndB9:(oB [0,0]).all noDefO=true:=by kernel_rfl
theorem ndB10:(oB [0,1,0]).all noDefO=true:=by kernel_rfl
theorem ndB11:(oB [0,1,1]).all noDefO=true:=by kernel_rfl
theorem nd47_0:(o47 [0]).all noDefO=true:=by kernel_rfl
theorem nd47_1:(o47 [1,0,0,0,0]).all noDefO=true:=by kernel_rfl
theorem nd47_2:(o47 [1,0,0,1,1]).all noDefO=true:=by kernel_rfl
theorem nd47_3:(o47 [1,0,0,1,0,0,0]).all noDefO=true:=by kernel_rfl
def opAt (l : Array Oper) (i : Nat) : Oper := l.getD i ⟨none, .move (.tmp 0), 0, "", #[], none⟩
theorem o6_get:(o47 [1,0,0,1,0,0,0])[6]?=some (opAt (o47 [1,0,0,1,0,0,0]) 6):=by kernel_rfl
theorem o6_op:(opAt (o47 [1,0,0,1,0,0,0]) 6).op=.call { callee:=.value (.tmp 11),args:=#[.tmp 12,.tmp 16],argTypes:=#[3,45] }:=by kernel_rfl
theorem o6_dst:(opAt (o47 [1,0,0,1,0,0,0]) 6).dst=some 17:=by kernel_rfl
theorem o6_guard:(opAt (o47 [1,0,0,1,0,0,0]) 6).guard=none:=by kernel_rfl
theorem o3_range:List.range (o47 [1,0,0,1,0,0,0]).size=[0,1,2,3,4,5]++[6,7]:=by kernel_rfl
end
section
open Go.Ab Go
attribute [-simp] eAlloc_d eStore_f
theorem sp_tm{s:St}{d i:Nat}{v:AV}:(sp s d v).tm i=if i=d then v else s.tm i:=rfl
structure IV (h0 h:AH) (vr vd v:Nat) (q b:Int) (x:AV) (l:List (COp×AV)) (k:Nat) (acc:AV) (L:List (COp×AV)):Prop where
 fr:Fr h0 h (fun _=>False)
 or_:h.obj vr=some (mkO (zCi.map AV.sc) 3 24)
 od:h.obj vd=some (mkO [I q,I b,acc] 3 24)
 ov:h.obj v=some (mkO [x] 1 22)
 a:SlL encO 7 45 h acc L
 i:InS (h0.next<=·) acc
 qs:∀y∈L,SlL encI 1 3 h y.2 y.1.qubits
 e:L.map (·.1)=mirror ((l.drop k).map (·.1))
theorem IV.same{h0 h h2:AH}{vr vd v:Nat}{q b:Int}{x:AV}{l:List (COp×AV)}{k n:Nat}{acc:AV}{L:List (COp×AV)}(a:IV h0 h vr vd v q b x l k acc L)(s:Same n h h2)(hn:h0.next<=n):IV h0 h2 vr vd v q b x l k acc L:=
 ⟨⟨by rw[s.next];exact a.fr.next,fun id hi hs=>by rw[s.old id (by omega)];exact a.fr.keep id hi hs⟩,s.row _ _ a.or_ rfl,s.row _ _ a.od rfl,s.row _ _ a.ov rfl,s.slL a.a,a.i,fun y hy=>s.slL (a.qs y hy),a.e⟩
theorem IV.fr0{h0 h h2:AH}{vr vd v:Nat}{q b:Int}{x:AV}{l:List (COp×AV)}{k:Nat}{acc:AV}{L:List (COp×AV)}(a:IV h0 h vr vd v q b x l k acc L)(f:Fr h h2 fun _=>False):IV h0 h2 vr vd v q b x l k acc L:=
 ⟨a.fr.tr0 f,f.ob0 a.or_,f.ob0 a.od,f.ob0 a.ov,slL_f0 a.a f,a.i,fun y hy=>slL_f0 (a.qs y hy) f,a.e⟩
section
variable {h0:AH} {M:Nat->Prop} {E0:Env} {w0:World} {vr vd v lp D:Nat} {q b:Int} {x:AV} {l:List (COp×AV)}
theorem round_ok{F:Fence}{m:Nat}(hF:WF F)(hFr:F=Fence.wide.inRound lp)(hr0:Rel E0 h0 w0)(hx:OpsL h0 x l)(hl:l.length<=100000)(hw:∀y∈l,y.1.qubits≠[]/\y.1.qubits.length<=1000/\arityT y.1.name≠0)
  (hv:h0.next<=vr/\h0.next<=vd/\h0.next<=v/\vr≠vd) (hlp:w0.heap.size<=lp) (hDl:D≠lp)
  {E:Env} {h:AH} {W:World} {r:Loop} {s:St} {t:Array Value} {k:Nat} {acc:AV} {L:List (COp×AV)} {o:COp} {xo:AV}
  (hst:ST E h W lp D r) (hrd:r.state=.ready) (hpe:r.pending=none) (hgs:Step E0 h0 (fun id=>M id\/h0.next<=id) w0 E h W) (iv:IV h0 h vr vd v q b x l (k+1) acc L)
  (hg:l[k]?=some (o,xo)) (ha:AR E 48 s ⟨t,[]⟩) (hds:s.ds=[]) (h31:s.tm 31=.agg (encO (o,xo))) (h6:s.tm 6=.ptr vd 0)
  {R:Ending->World->Prop}
  (hR:∀E' h' W' acc' L',ST E' h' W' lp D r->Step E0 h0 (fun id=>M id\/h0.next<=id) w0 E' h' W'->E.le E'->IV h0 h' vr vd v q b x l k acc' L'->R (.returned (.bool true)) W') :
  (rfA rf17).wpIn F m Try.prog (Exit.then (fun a₁ w₁=>∃w₂,(Instr.beginRound lp).run Try.prog w₁=.ok () w₂/\(rfB rf17).wpIn F m Try.prog (roundPost Try.prog lp R) a₁ w₂) (fun _ _ _=>False)) ⟨t,[]⟩ W:=by
 have hmo:=zP hg
 obtain⟨qne,ql,har⟩:=hw _ hmo
 simp only at qne ql har
 have hkl:k<l.length:=(zM.1 hg).1
 have qo:SlR encI 1 3 h xo o.qubits:=(hx.fr0 iv.fr).qs _ hmo
 have hLn:L.length<=100000:=by
  have:=congrArg List.length iv.e
  rw[mirror_len]at this
  simp only[zZ,List.length_drop]at this;omega
 rw[rfA_eq]
 refine rgnT (N:=48) (W:=fun id=>M id\/h0.next<=id) (K:=fun s' h'=>∃vo,s'=sp s 8 (.ptr vo 0)/\Fr h h' (fun _=>False)/\h.next<=vo/\h'.obj vo=some (mkO (encO (o,xo)) 7 45)) hF ndA hst.rel ha ?_ ?_
 ·show evS _ _ _ _ _ _ KF _ _
  rw[e8,h31]
  refine new_var (oneO qo) rfl rfl rfl (fun id hid=>.inr (zR iv.fr.next hid)) fun vo h1 f1 hn1 ho=>?_
  exact⟨hds,vo,rfl,f1,hn1,ho⟩
 rintro s1 h1 E1 W1 t1 ⟨vo,rfl,f1,hn1,hoo⟩ st1 ar1
 obtain⟨h1c,st1c,ST1,sm1⟩:=hst.step st1
 have iv1:=(iv.fr0 f1).same sm1 iv.fr.next
 have hoo:=sm1.row _ _ hoo rfl
 have hgs1:Step E0 h0 (fun id=>M id\/h0.next<=id) w0 E1 h1c W1:=hgs.trans hr0 st1c fun id _ hm=>.inl hm
 have qo1:SlR encI 1 3 h1c xo o.qubits:=(hx.fr0 iv1.fr).qs _ hmo
 refine⟨_,run_beginRound ST1.lb hrd,?_⟩
 have ST2:=ST1.put (r':={ r with state:=.busy }) hDl
 have hgs2:=hgs1.put ST1.nl hlp (.loop { r with state:=.busy })
 generalize W1.putObj lp (.loop { r with state:=.busy })=W2 at *
 rw[rfB_eq]
 refine wpIn_block (wpIn_seq ?_)
 refine rgnT (N:=48) (W:=fun id=>M id\/h0.next<=id) (K:=fun s' h'=>∃vp xq,s'.tm 8=.ptr vo 0/\s'.tm 9=.ptr vp 0/\s'.tm 6=.ptr vd 0/\s'.ds=[]/\Fr h1c h' (fun _=>False)/\h1c.next<=vp/\h'.obj vp=some (mkO (encO (o,xq)) 7 45)/\SlL encI 1 3 h' xq o.qubits) hF ndB9 ST2.rel ar1 ?_ ?_
 ·show evS _ _ _ _ _ _ KF _ _
  rw[e9]
  rw[show(sp s 8 (.ptr vo 0)).tm 8=.ptr vo 0 from rfl]
  refine var_ld hoo rfl fun _=>?_
  refine⟨fun _=>False,fun _ h=>h.elim,copiedO_ok qo1 qne ql fun xq h2 f2 hxq hin=>?_⟩
  refine new_var (encO_one (y:=(o,xq)) hxq.toR.one.1) rfl rfl rfl (fun id hid=>.inr (zR (iv1.fr.tr0 f2).next hid)) fun vp h3 f3 hn3 hop=>?_
  exact⟨hds,vp,xq,rfl,rfl,h6,hds,f2.tr0 f3,zR f2.next hn3,hop,slL_f0 hxq f3⟩
 rintro s2 h2 E2 W3 t2 ⟨vp,xq,p8,p9,p6,pds,f2,hvp1,hop,hxq⟩ st2 ar2
 have hvp:h0.next<=vp:=zR iv1.fr.next hvp1
 have iv2:=iv1.fr0 f2
 have hoo:=f2.ob0 hoo
 refine wpIn_seq ?_
 refine rgnT (N:=48) (W:=fun id=>M id\/h0.next<=id) (K:=fun s' h'=>s'.tm 9=.ptr vp 0/\s'.tm 6=.ptr vd 0/\s'.ds=[]/\Fr h2 h' (·=vp)/\h'.obj vp=some (mkO (encO (mir o,xq)) 7 45)) hF ndB10 st2.rel ar2 ?_ ?_
 ·show evS _ _ _ _ _ _ KF _ _
  rw[e10,p8,p9]
  refine var_fld hoo rfl fun _=>?_
  refine⟨fun _=>False,fun _ h=>h.elim,inverse_ok har fun h3 f3=>?_⟩
  simp only[pExt_tup,zA,zB,cellK_some]
  refine var_st (f3.ob0 hop) (by simp[encO]) rfl rfl (.inr hvp) fun h4 f4 ho4=>?_
  exact⟨pds,p9,p6,pds,(f3.mono fun _ h=>h.elim).trans (f4.mono fun _ h=>.inl h),ho4⟩
 rintro s3 h3 E3 W4 t3 ⟨u9,u6,uds,f3,hop3⟩ st3 ar3
 have no3:∀{id:Nat}{cs:List AV}{sz:Nat}{ty:TypeId},ty≠45->h2.obj id=some (mkO cs sz ty)->¬id=vp:=fun ht ho=>obj_ne ho hop ht
 have keepA:SlL encO 7 45 h3 acc L:=iv2.a.of_fr f3 fun id e (he:id=vp)=>by
  have h4:=slL_lt iv1.a _ _ _ e
  omega
 have keepI:∀{x:AV}{l:List Int},SlL encI 1 3 h2 x l->SlL encI 1 3 h3 x l:=fun hs=>slL_ne hs hop (by decide) f3
 have hod3:=f3.obj iv2.od (no3 (by decide) iv2.od)
 have hor3:=f3.obj iv2.or_ (no3 (by decide) iv2.or_)
 have hov3:=f3.obj iv2.ov (no3 (by decide) iv2.ov)
 have hxq3:=keepI hxq
 have fr3:Fr h0 h3 (fun _=>False):=fr_set iv2.fr hvp f3
 refine rgnT (N:=48) (W:=fun id=>M id\/h0.next<=id) (K:=fun s' h'=>∃acc',IV h0 h' vr vd v q b x l k acc' (L++[(mir o,xq)])) hF ndB11 st3.rel ar3 ?_ ?_
 ·show evS _ _ _ _ _ _ KF _ _
  rw[e11,u6,u9]
  refine var_fld hod3 rfl fun _=>?_
  refine var_ld hop3 rfl fun _=>?_
  refine app1t (f:=encO) (t:=(mir o,xq)) (K:=fun t44 t45 h2=>_) encO_len (by decide) rfl (by decide) (encO_one (y:=(mir o,xq)) hxq.toR.one.1) keepA (fun id off n e=>.inr (iv2.i id off n e)) (by omega) fun y h5 hy hiy hfr hnx=>?_
  have f35:Fr h3 h5 (fun i=>∃off n,acc=.sl i off n):=⟨hnx,fun i hi hs=>hfr i hi fun off n e=>hs ⟨off,n,e⟩⟩
  have no:∀{i:Nat}{cs:List AV}{sz:Nat}{ty:TypeId},ty≠45->h3.obj i=some (mkO cs sz ty)->¬ ∃off n,acc=.sl i off n:=fun{i cs sz ty} ht hi2 ⟨off,n,e⟩=>by
   rcases keepA with⟨e2,_⟩ |⟨j,e2,hj⟩
   ·rw[e2]at e;cases e
   ·rw[e2]at e;cases e
    exact obj_ne hi2 hj ht rfl
  have hod5:=f35.obj hod3 (no (by decide) hod3)
  have hor5:=f35.obj hor3 (no (by decide) hor3)
  have hov5:=f35.obj hov3 (no (by decide) hov3)
  have hyo:=hy.toR.one
  refine var_st hod5 (by simp) hyo.1 hyo.2 (.inr hv.2.1) fun h6 f6 hod6=>?_
  have fr5:Fr h0 h5 (fun _=>False):=fr3.trans (f35.mono fun id ⟨off,n,e⟩=>.inr (iv2.i id off n e))
  have kq:∀{x:AV}{l:List Int},SlL encI 1 3 h3 x l->SlL encI 1 3 h6 x l:=fun hs=>slL_ne (hs.of_fr f35 fun id e=>by
   rcases hs with⟨e2,_⟩ |⟨j,e2,hj⟩
   ·rw[e2]at e;cases e
   ·rw[e2]at e;cases e;exact no (by decide) hj) hod5 (by decide) f6
  refine⟨uds,y,⟨fr_set fr5 hv.2.1 f6,f6.obj hor5 hv.2.2.2,hod6,f6.obj hov5 (obj_ne hov5 hod5 (show(22:Nat)≠24 by decide)),slL_ne hy hod5 (by decide) f6,fun id off n e=>zR fr3.next (hiy id off n e),fun w hw=>?_,?_⟩⟩
  ·rcases List.mem_append.1 hw with hw |hw
   ·exact kq (keepI (iv2.qs w hw))
   ·simp only[List.mem_singleton]at hw
    subst hw
    exact kq hxq3
  ·rw[List.map_append,iv2.e,List.drop_eq_getElem_cons hkl,(zM.1 hg).2]
   show mirror _++[mir o]=mirror ([o]++(l.drop (k+1)).map (·.1))
   rw[mirror_app];rfl
 rintro s4 h4 E4 W5 t4 ⟨acc',iv4⟩ st4 ar4
 have st24:Step E1 h1c (fun id=>M id\/h0.next<=id) W2 E4 h4 W5:=(st2.trans ST2.rel st3 fun id _ hm=>.inl hm).trans ST2.rel st4 fun id _ hm=>.inl hm
 obtain⟨h4c,st4c,ST4,sm4⟩:=ST2.step st24
 have iv4c:=iv4.same sm4 iv1.fr.next
 have hgs4:Step E0 h0 (fun id=>M id\/h0.next<=id) w0 E4 h4c W5:=hgs2.trans hr0 st4c fun id _ hm=>.inl hm
 have hend:=run_endRound (P:=Try.prog) none ST4.lb
 refine⟨_,_,hend,?_⟩
 have hrr:({ ({ r with state:=.busy }:Loop) with state:=if (none:Option Code).isNone then .ready else .done,pending:=none }:Loop)=r:=by
  cases r;simp only at hrd hpe;subst hrd hpe;rfl
 rw[hrr]
 exact hR E4 h4c _ acc' _ (ST4.put hDl) (hgs4.put ST4.nl hlp _) (fun id B hB=>st24.env id B (st1.env id B hB)) iv4c
end
end
section
open Go.Ab Go
attribute [-simp] eAlloc_d eStore_f
theorem b47:Try.f47.body=some c47:=by kernel_rfl
theorem b17:Try.f17.body=some c17:=by kernel_rfl
theorem VR.bool_{E:Env}{b:Bool}{u:Value}(h:VR E (B b) u):u=.bool b:=by cases h;rfl
theorem VR.int_{E:Env}{z:Int}{u:Value}(h:VR E (I z) u):u=.int .i64 z:=by cases h;rfl
theorem VR.fn_{E:Env}{g:Fn}{u:Value}(h:VR E (.fn g [] []) u):u=.func g #[] #[]:=by
 cases h with
 |fn a b=>cases a;cases b;rfl
theorem sp_N{s:St}{N d:Nat}{v:AV}(hd:d<N):s.put N (some d) v=sp s d v:=by
 unfold St.put sp
 simp[hd]
noncomputable def recO(fn:FuncId)(t:Array Value)(D:Nat):Loop:={ state:=.ready,pending:=none,fn,tmps:=t,params:=#[30,31],assign:=rfA rf17,body:=rfB rf17,defers:=D }
theorem op6_run{ρ:Operand->Value}{lp D:Nat}{t:Array Value}{fn:FuncId}{W:World}{i o:Value}(h11:ρ (.tmp 11)=.func (.yield lp) #[] #[])(h12:ρ (.tmp 12)=i)(h16:ρ (.tmp 16)=o)(lb:W.heap[lp]?=some (.loop (recO fn t D))) :
  (execOp ρ (opAt (o47 [1,0,0,1,0,0,0]) 6)).run Try.prog W=.ok (.round lp fn ((t.setIfInBounds 30 i).setIfInBounds 31 o) (rfA rf17) (rfB rf17)) W:=by
 unfold execOp
 rw[o6_op]
 have hy:=run_yield (P:=Try.prog) (args:=#[i,o]) lb rfl
 simp only[Sem.run_bind,resolve,h11,List.map_toArray,List.map_cons,List.map_nil,h12,h16,Deferred.ofValue,Sem.run_pure,Result.andThen,invoke,go_sem]
 simpa[recO] using hy
theorem var_ld1{h:AH}{K:AV->Nat->Prop}{u:AV}{vn:Nat}{ty:TypeId}(ho:h.obj vn=some (mkO [u] 1 ty))(hK:K u vn):lLd (some false) (some 1) (.ptr vn 0) h K:=by
 simp only[lLd_f,ho,ldk_mk,zA];exact hK
section
variable {h0:AH} {M:Nat->Prop} {E0:Env} {w0:World} {vr vd v lp D:Nat} {q b:Int} {x:AV} {l:List (COp×AV)}
theorem walk_ok{n:Nat}(hr0:Rel E0 h0 w0)(hx:OpsL h0 x l)(hl:l.length<=100000)(hw:∀y∈l,y.1.qubits≠[]/\y.1.qubits.length<=1000/\arityT y.1.name≠0)
  (hv:h0.next<=vr/\h0.next<=vd/\h0.next<=v/\vr≠vd) (hlp:w0.heap.size<=lp) (hDl:D≠lp)
  {fn:FuncId} {t17:Array Value} {s17:St} {E1:Env} {h1:AH} {W1:World} {acc:AV} {L:List (COp×AV)} {cv:Value}
  (hst:ST E1 h1 W1 lp D (recO fn t17 D)) (hgs:Step E0 h0 (fun id=>M id\/h0.next<=id) w0 E1 h1 W1) (iv:IV h0 h1 vr vd v q b x l l.length acc L)
  (ar17:AR E1 48 s17 ⟨t17,[]⟩) (hds:s17.ds=[]) (h6:s17.tm 6=.ptr vd 0) (hcv:VR E1 (.ptr v 0) cv) :
  CallsIn Fence.wide n Try.prog 47 #[.func (.yield lp) #[] #[],cv] W1 fun e W'=>(∃u,e=.returned u)/\∃E' h' acc' L',ST E' h' W' lp D (recO fn t17 D)/\Step E0 h0 (fun id=>M id\/h0.next<=id) w0 E' h' W'/\E1.le E'/\IV h0 h' vr vd v q b x l 0 acc' L':=by
 have hF:WF Fence.wide:=.inl rfl
 refine callsIn_of_wp Try.func47 b47 trivial ?_
 rw[c47_eq]
 refine wpIn_seq ?_
 have ha0:AR E1 19 (s0 [.fn (.yield lp) [] [],.ptr v 0]) ⟨#[.func (.yield lp) #[] #[],cv]++Array.replicate (19 - #[.func (.yield lp) #[] #[],cv].size) undef,[]⟩:=s0_ok (.cons (.fn .nil .nil) (.cons hcv .nil)) (by simp)
 have hlen:=(hx.fr0 iv.fr).tab.len
 refine rgnT (N:=19) (W:=fun id=>M id\/h0.next<=id) (K:=fun s' h'=>h'=h1/\s'.ds=[]/\s'.tm 0=.fn (.yield lp) [] []/\s'.tm 1=.ptr v 0/\s'.tm 3=I ((l.length:Int)-1)) hF nd47_0 hst.rel ha0 ?_ ?_
 ·show evS _ _ _ _ _ _ KF _ _
  rw[k0]
  refine var_ld1 iv.ov ?_
  simp only[hlen.1,hlen.2,zH,pBin_sub]
  rw[wrap_in (by omega) (by omega)]
  exact⟨rfl,rfl,rfl,rfl,rfl⟩
 rintro s2 h2 E2 W2 t2 ⟨rfl,d2,p0,p1,p3⟩ st2 ar2
 obtain⟨h3,st3,ST3,sm3⟩:=hst.step st2
 have iv3:=iv.same sm3 iv.fr.next
 have hgs3:Step E0 h0 (fun id=>M id\/h0.next<=id) w0 E2 h3 W2:=hgs.trans hr0 st3 fun id _ hm=>.inl hm
 show Code.wpIn _ _ _ _ _ _ _
 refine wpIn_block (wpIn_loop (fun a W=>∃k E h acc L s,a.defers=[]/\k<=l.length/\ST E h W lp D (recO fn t17 D)/\Step E0 h0 (fun id=>M id\/h0.next<=id) w0 E h W/\E1.le E/\IV h0 h vr vd v q b x l k acc L/\AR E 19 s ⟨a.tmps,[]⟩/\s.ds=[]/\s.tm 0=.fn (.yield lp) [] []/\s.tm 1=.ptr v 0/\s.tm 3=I ((k:Int)-1))
  (fun a _=>match a.tmps.getD 3 undef with |.int _ z=>(z+1).toNat |_=>0) ⟨l.length,E2,h3,acc,L,s2,rfl,zU _,ST3,hgs3,st2.env,iv3,ar2,d2,p0,p1,p3⟩ ?_)
 rintro⟨t,ds⟩ W ⟨k,E,h,acc,L,s,hd,hk,hst,hgs,hle,iv,ar,hds2,p0,p1,p3⟩
 simp only at hd ar
 subst hd
 have ht3:=VR.int_ (p3 ▸ ar.tm 3)
 simp only at ht3
 refine wpIn_seq (wpIn_seq ?_)
 refine rgnT (N:=19) (W:=fun id=>M id\/h0.next<=id) (K:=fun s' h'=>h'=h/\s'.ds=[]/\s'.tm 0=.fn (.yield lp) [] []/\s'.tm 1=.ptr v 0/\s'.tm 3=I ((k:Int)-1)/\s'.tm 8=B (decide (1<=k))) hF nd47_1 hst.rel ar ?_ ?_
 ·show evS _ _ _ _ _ _ KF _ _
  rw[k1,p3]
  simp only[pBin_geq]
  refine⟨hds2,trivial,hds2,p0,p1,p3,?_⟩
  rw[sp_tm,zX rfl,show decide ((k:Int)-1>=0)=decide (1<=k) from decide_eq_decide.2 (by omega)]
 rintro s4 h4 E4 W4 t4 ⟨rfl,d4,u0,u1,u3,u8⟩ st4 ar4
 obtain⟨h5,st5,ST5,sm5⟩:=hst.step st4
 have iv5:=iv.same sm5 iv.fr.next
 have hgs5:Step E0 h0 (fun id=>M id\/h0.next<=id) w0 E4 h5 W4:=hgs.trans hr0 st5 fun id _ hm=>.inl hm
 have hle5:E1.le E4:=fun id B hB=>st4.env id B (hle id B hB)
 show Code.wpIn _ _ _ _ _ _ _
 refine wpIn_cond (VR.bool_ (u8 ▸ ar4.tm 8)) ?_
 rcases k with _ |k
 ·simp only[Nat.reduceLeDiff,decide_false,zE,if_false]
  refine wpIn_exit ?_
  obtain⟨vv,uu,b1,b2,b3⟩:=results_ok ST5.rel ar4 Try.f47 (fun _=>True) (by rw[show Try.f47.results.toList=[] from rfl];trivial)
  exact⟨rfl,uu,b3,⟨uu,rfl⟩,E4,h5,acc,L,ST5,hgs5,hle5,iv5⟩
 simp only[Nat.le_add_left,decide_true,zV]
 refine wpIn_skip ?_
 show Code.wpIn _ _ _ _ _ _ _
 refine wpIn_seq (wpIn_block (wpIn_seq (wpIn_region ?_)))
 have hkl:k<l.length:=by omega
 have hg:l[k]?=some (l[k].1,l[k].2):=zJ hkl
 obtain⟨ida,cells,ro,ty',exx,hoa,hg1,hg2,_⟩:=(hx.fr0 iv5.fr).tab.at_ encO_len hg
 have e3:((k+1:Nat):Int)-1=k:=by omega
 rw[e3]at u3
 rw[o3_range]
 refine opsT (N:=19) (W:=fun id=>M id\/h0.next<=id) (K:=fun s' h'=>h'=h5/\s'.ds=[]/\s'.tm 0=.fn (.yield lp) [] []/\s'.tm 1=.ptr v 0/\s'.tm 3=I k/\s'.tm 11=.fn (.yield lp) [] []/\s'.tm 12=I k/\s'.tm 16=.agg (encO (l[k].1,l[k].2))) hF nd47_3 ST5.rel ar4 ?_ ?_
 ·show evS _ _ _ _ _ _ KF _ _
  rw[k3,u0,u1,u3]
  refine var_ld1 iv5.ov ?_
  rw[exx]
  simp only[pIxA_sl,lLdn_f,hoa,ldnk_mk,zG,zY]
  refine⟨⟨by omega,by omega⟩,hg2,?_⟩
  rw[hg1]
  exact⟨d4,trivial,d4,u0,u1,u3,rfl,rfl,rfl⟩
 rintro s6 h6' E6 W6 t6 ⟨rfl,d6,q0,q1,q3,q11,q12,q16⟩ st6 ar6
 obtain⟨h7,st7,ST7,sm7⟩:=ST5.step st6
 have iv7:=iv5.same sm7 iv5.fr.next
 have hgs7:Step E0 h0 (fun id=>M id\/h0.next<=id) w0 E6 h7 W6:=hgs5.trans hr0 st7 fun id _ hm=>.inl hm
 have hle7:E1.le E6:=fun id B hB=>st6.env id B (hle5 id B hB)
 have y11:t6.getD 11 undef=.func (.yield lp) #[] #[]:=by
  have:=ar6.tm 11
  rw[q11]at this
  exact VR.fn_ this
 have y12:=VR.int_ (q12 ▸ ar6.tm 12)
 simp only at y12
 unfold wpOpsIn
 rw[o6_get]
 simp only[Region.wanted,o6_guard,zV]
 refine⟨fun _ _=>trivial,?_⟩
 rw[show(Fence.wide).round=none from rfl,Oper.semAt_none,op6_run (ρ:=(Act.mk t6 []).eval) y11 rfl rfl ST7.lb,Oper.uponIn_round]
 refine⟨(fun h=>by cases h),roundIn_of_wpIn (F:=Fence.wide) trivial ?_⟩
 have arE:=((ar17.mono hle7).put (some 30) (q12 ▸ ar6.tm 12)).put (some 31) (q16 ▸ ar6.tm 16)
 rw[sp_N (by decide),sp_N (by decide)]at arE
 refine round_ok (.inr ⟨lp,rfl⟩) rfl hr0 hx hl hw hv hlp hDl ST7 rfl rfl hgs7 iv7 hg arE hds rfl h6 ?_
 intro E8 h8 W8 acc8 L8 ST8 hgs8 hle8 iv8
 have ar8:=(ar6.mono hle8).put (some 17) (.sc (.bool true))
 rw[sp_N (by decide)]at ar8
 show wpOpsIn _ _ _ _ _ ([7]++[]) _ _
 rw[o6_dst]
 have hle8:E1.le E8:=fun id B hB=>hle8 id B (hle7 id B hB)
 refine opsT (N:=19) (t:=((Act.mk t6 []).put (some 17) (.bool true)).tmps) (W:=fun id=>M id\/h0.next<=id) (K:=fun s' h'=>h'=h8/\s'.ds=[]/\s'.tm 0=.fn (.yield lp) [] []/\s'.tm 1=.ptr v 0/\s'.tm 3=I k/\s'.tm 18=B false) hF nd47_3 ST8.rel ar8 ?_ ?_
 ·show evS _ _ _ _ _ _ KF _ _
  rw[k3b,sp_tm,zX rfl]
  simp only[pUn_not,zS]
  exact⟨d6,trivial,d6,q0,q1,q3,rfl⟩
 rintro s9 h9' E9 W9 t9 ⟨rfl,d9,r0,r1,r3,r18⟩ st9 ar9
 obtain⟨h9,st9',ST9,sm9⟩:=ST8.step st9
 have iv9:=iv8.same sm9 iv8.fr.next
 have hgs9:Step E0 h0 (fun id=>M id\/h0.next<=id) w0 E9 h9 W9:=hgs8.trans hr0 st9' fun id _ hm=>.inl hm
 have hle9:E1.le E9:=fun id B hB=>st9.env id B (hle8 id B hB)
 show Code.wpIn _ _ _ _ _ _ _
 refine wpIn_cond (t:=false) (VR.bool_ (r18 ▸ ar9.tm 18)) ?_
 simp only[zE,if_false]
 refine wpIn_skip ?_
 show Code.wpIn _ _ _ _ _ _ _
 refine rgnT (N:=19) (W:=fun id=>M id\/h0.next<=id) (K:=fun s' h'=>h'=h9/\s'.ds=[]/\s'.tm 0=.fn (.yield lp) [] []/\s'.tm 1=.ptr v 0/\s'.tm 3=I ((k:Int)-1)) hF nd47_2 ST9.rel ar9 ?_ ?_
 ·show evS _ _ _ _ _ _ KF _ _
  rw[k2,r3]
  simp only[pBin_sub]
  rw[wrap_in (by omega) (by omega)]
  exact⟨d9,trivial,d9,r0,r1,rfl⟩
 rintro s10 h10' E10 W10 t10 ⟨rfl,d10,g0,g1,g3⟩ st10 ar10
 obtain⟨h10,st10',ST10,sm10⟩:=ST9.step st10
 have iv10:=iv9.same sm10 iv9.fr.next
 have hgs10:Step E0 h0 (fun id=>M id\/h0.next<=id) w0 E10 h10 W10:=hgs9.trans hr0 st10' fun id _ hm=>.inl hm
 have ht10:=VR.int_ (g3 ▸ ar10.tm 3)
 simp only at ht10
 refine⟨⟨k,E10,h10,acc8,L8,s10,rfl,by omega,ST10,hgs10,fun id B hB=>st10.env id B (hle9 id B hB),iv10,ar10,d10,g0,g1,g3⟩,?_⟩
 simp only[ht10,ht3]
 omega
end
end
section
open Go.Ab Go
attribute [-simp] eAlloc_d eStore_f
theorem res17:Try.f17.results.toList=[.cell 2 24,.tmp 3]:=by kernel_rfl
theorem nt17:Try.f17.ntmps=48:=by kernel_rfl
theorem ag24':aggOf Try.prog 24=some true:=by kernel_rfl
theorem sz24':szOf Try.prog 24=some 3:=by kernel_rfl
theorem resolve_run{a:Act}{lp:Nat}{W:World}{cv:Value}(h:a.eval (.tmp 29)=.func (.func 47) #[] #[cv]):(resolve a.eval (rangeCall (.tmp 29) lp) 0).run Try.prog W=.ok { target:=.fn (.func 47) #[cv],args:=#[.func (.yield lp) #[] #[]] } W:=by
 have h2:=h
 simp[Act.eval]at h2
 simp[resolve,go_sem,Act.eval,h2]
theorem VR.fn1_{E:Env}{g:Fn}{a:AV}{u:Value}(h:VR E (.fn g [] [a]) u):∃cv,VR E a cv/\u=.func g #[] #[cv]:=by
 cases h with
 |fn a b=>cases a;cases b with |cons c d=>cases d;exact⟨_,c,rfl⟩
theorem st_all{h:AH}{W:Nat->Prop}{K:AH->Prop}{c0 cs:List AV}{vn sz:Nat}{ty:TypeId}(hv:h.obj vn=some (mkO c0 sz ty))(hn:cs.length=sz)(h0:c0.length=sz)(ho:cs.all oneA=true)(hW:W vn)
  (hK:∀h',Fr h h' (·=vn)->h'.obj vn=some (mkO cs sz ty)->K h'):eStore (some sz) (.ptr vn 0) (.agg cs) h W K:=by
 simp only[eStore_f,hv,avC_agg,stk_mk]
 refine⟨⟨hW,ho,hn,by omega⟩,hK _ (Fr.refl.put (.inl rfl)) ?_⟩
 rw[put_row hv]
 congr 1
 simp only[mkO]
 congr 1
 exact aFill_one (by omega)
section
variable {h:AH} {M:Nat->Prop} {R:AE->AH->Prop} {q b:Int} {x:AV} {l:List (COp×AV)}
theorem inverse17_ok(hx:OpsL h x l)(hk:CK q b (l.map (·.1)))(hkind:∀y∈l,y.1.kind=1)
  (hR:∀h' xo (yl:List (COp×AV)),Fr h h' (fun _=>False)->OpsL h' xo yl->slShape xo yl.length->yl.map (·.1)=mirror (l.map (·.1))->R (.ret (.tup [.agg [I q,I b,xo],I 0])) h'):ACalls Try.prog 17 [.agg [I q,I b,x]] h M R:=by
 intro E0 w0 cargs hr0 hargs
 have hF:WF Fence.wide:=.inl rfl
 have hln:l.length<=4096:=by have:=hk.n;rwa [zZ]at this
 have hw:∀y∈l,y.1.qubits≠[]/\y.1.qubits.length<=1000/\arityT y.1.name≠0:=fun y hy=>⟨(hk.wo y hy).2.2,by have:=(hk.wo y hy).1.1;omega,(hk.f0 hy).k (hkind y hy)⟩
 have hql:∀y∈l,y.1.qubits.length<=9223372036854775807:=fun y hy=>by have:=(hw y hy).2.1;omega
 suffices hc:CallsIn Fence.wide 0 Try.prog 17 cargs.toArray w0 (fun e w'=>∃E' h' ae,Step E0 h (fun id=>M id\/h.next<=id) w0 E' h' w'/\ER E' ae e/\R ae h') by
  refine(callsIn_wide.1 hc).mono ?_
  rintro e w' ⟨E',h',ae,s1,s2,s3⟩
  exact⟨E',h',ae,(Step.refl hr0).trans hr0 s1 fun id hi hm=>hm,s2,s3⟩
 refine callsIn_of_wp_marks Try.func17 b17 trivial ?_
 rw[c17_eq,nt17]
 have ha0:AR E0 48 (s0 [.agg [I q,I b,x]]) ⟨cargs.toArray++Array.replicate (48-cargs.toArray.size) undef,[]⟩:=s0_ok hargs (by simp)
 generalize cargs.toArray++Array.replicate (48-cargs.toArray.size) undef=t0 at *
 refine wpIn_seq ?_
 refine rgnT (N:=48) (W:=fun id=>M id\/h.next<=id) (K:=fun s' h'=>∃va vr,s'.ds=[]/\s'.tm 1=.ptr va 0/\s'.tm 2=.ptr vr 0/\s'.tm 3=I 0/\Fr h h' (fun _=>False)/\h.next<=vr/\h'.obj va=some (mkO [I q,I b,x] 3 24)/\h'.obj vr=some (mkO (zCi.map AV.sc) 3 24)) hF nd17_0 hr0 ha0 ?_ ?_
 ·show evS _ _ _ _ _ _ KF _ _
  rw[e0]
  refine box_var (cs:=[I q,I b,x]) (ones3 hx.tab.one.1) fun va h1 f1 hn1 hoa=>?_
  simp only[eAlloc_d]
  have hor:=AH.alloc_new h1 (mkO (zCi.map AV.sc) 3 24)
  have f2:Fr h1 (h1.alloc (mkO (zCi.map AV.sc) 3 24)) (fun _=>False):=Fr.refl.alloc _
  refine⟨rfl,rfl,va,h1.next,rfl,rfl,rfl,rfl,f1.tr0 f2,f1.next,f2.ob0 hoa,hor⟩
 rintro s1 h1 E1 W1 t1 ⟨va,vr,d1,p1,p2,p3,f1,hvr,hoa,hor⟩ st1 ar1
 show Code.wpIn _ _ _ _ _ _ _
 refine wpIn_seq ?_
 refine rgnT (N:=48) (W:=fun id=>M id\/h.next<=id) (K:=fun s' h'=>s'.ds=[]/\s'.tm 1=.ptr va 0/\s'.tm 2=.ptr vr 0/\s'.tm 3=I 0/\s'.tm 4=B true/\s'.tm 5=I 0/\Fr h1 h' (fun _=>False)) hF nd17_1 st1.rel ar1 ?_ ?_
 ·show evS _ _ _ _ _ _ KF _ _
  rw[e1,p1]
  refine var_ld hoa rfl fun _=>?_
  refine⟨fun _=>False,fun _ h=>h.elim,all_ok such27 (hx.fr0 f1) hql (fun h2 f2 he=>absurd (check_iff.2 hk) he) fun h2 f2 _=>?_⟩
  simp only[pExt_tup,zA,zB,cellK_some]
  refine⟨d1,d1,p1,p2,p3,?_,rfl,f2⟩
  have:(l.any fun y=>!gateB y.1)=false:=List.any_eq_false.2 fun y hy=>by simp[gateB,hkind y hy]
  rw[this];rfl
 rintro s2 h2 E2 W2 t2 ⟨d2,p1,p2,p3,p4,p5,f2⟩ st2 ar2
 show Code.wpIn _ _ _ _ _ _ _
 refine wpIn_seq (wpIn_seq ?_)
 refine rgnT (N:=48) (W:=fun id=>M id\/h.next<=id) (K:=fun s' h'=>h'=h2/\s'.ds=[]/\s'.tm 1=.ptr va 0/\s'.tm 2=.ptr vr 0/\s'.tm 3=I 0/\s'.tm 4=B true/\s'.tm 16=B false) hF nd17_2 st2.rel ar2 ?_ ?_
 ·show evS _ _ _ _ _ _ KF _ _
  rw[e2,p5]
  simp only[pBin_neq,bne_self_eq_false]
  exact⟨d2,trivial,d2,p1,p2,p3,p4,rfl⟩
 rintro s3 h3 E3 W3 t3 ⟨rfl,d3,p1,p2,p3,p4,p16⟩ st3 ar3
 show Code.wpIn _ _ _ _ _ _ _
 refine wpIn_cond (t:=false) (VR.bool_ (p16 ▸ ar3.tm 16)) ?_
 simp only[zE,if_false]
 refine wpIn_skip ?_
 show Code.wpIn _ _ _ _ _ _ _
 refine wpIn_seq (wpIn_seq ?_)
 refine rgnT (N:=48) (W:=fun id=>M id\/h.next<=id) (K:=fun s' h'=>h'=h3/\s'.ds=[]/\s'.tm 1=.ptr va 0/\s'.tm 2=.ptr vr 0/\s'.tm 3=I 0/\s'.tm 20=B false) hF nd17_4 st3.rel ar3 ?_ ?_
 ·show evS _ _ _ _ _ _ KF _ _
  rw[e4,p4]
  simp only[pUn_not,zS]
  exact⟨d3,trivial,d3,p1,p2,p3,rfl⟩
 rintro s4 h4 E4 W4 t4 ⟨rfl,d4,p1,p2,p3,p20⟩ st4 ar4
 show Code.wpIn _ _ _ _ _ _ _
 refine wpIn_cond (t:=false) (VR.bool_ (p20 ▸ ar4.tm 20)) ?_
 simp only[zE,if_false]
 refine wpIn_skip ?_
 show Code.wpIn _ _ _ _ _ _ _
 refine wpIn_seq ?_
 have hoa4:=f2.ob0 hoa
 have hor4:=f2.ob0 hor
 have f4:=f1.tr0 f2
 refine rgnT (N:=48) (W:=fun id=>M id\/h.next<=id) (K:=fun s' h'=>∃vd,s'.ds=[]/\s'.tm 1=.ptr va 0/\s'.tm 2=.ptr vr 0/\s'.tm 3=I 0/\s'.tm 6=.ptr vd 0/\h4.next<=vd/\Fr h4 h' (fun _=>False)/\h'.obj vd=some (mkO [I q,I b,nilS] 3 24)) hF nd17_6 st4.rel ar4 ?_ ?_
 ·show evS _ _ _ _ _ _ KF _ _
  rw[e6,p1]
  refine var_fld hoa4 rfl fun _=>?_
  refine var_fld hoa4 rfl fun _=>?_
  refine⟨[I q,I b,nilS],rfl,?_⟩
  refine new_var (cs:=[I q,I b,nilS]) rfl rfl rfl rfl (fun id hid=>.inr (zR f4.next hid)) fun vd h5 f5 hn5 hod=>?_
  exact⟨d4,vd,d4,p1,p2,p3,rfl,hn5,f5,hod⟩
 rintro s5 h5 E5 W5 t5 ⟨vd,d5,p1,p2,p3,p6,hvd,f5,hod⟩ st5 ar5
 show Code.wpIn _ _ _ _ _ _ _
 refine wpIn_seq (wpIn_seq ?_)
 have hoa5:=f5.ob0 hoa4
 have hor5:=f5.ob0 hor4
 have f05:=f4.tr0 f5
 refine rgnT (N:=48) (W:=fun id=>M id\/h.next<=id) (K:=fun s' h'=>∃v,s'.ds=[]/\s'.tm 2=.ptr vr 0/\s'.tm 3=I 0/\s'.tm 6=.ptr vd 0/\s'.tm 29=.fn (.func 47) [] [.ptr v 0]/\h5.next<=v/\Fr h5 h' (fun _=>False)/\h'.obj v=some (mkO [x] 1 22)) hF nd17_7 st5.rel ar5 ?_ ?_
 ·show evS _ _ _ _ _ _ KF _ _
  rw[e7,p1]
  refine var_fld hoa5 rfl fun _=>?_
  refine⟨fun _=>False,fun _ h=>h.elim,backward_ok hx.tab.one.1 (fun v h6 f6 hv hov _=>?_) hx.tab.one.2⟩
  exact⟨d5,v,d5,p2,p3,p6,rfl,hv,f6,hov⟩
 rintro s6 h6 E6 W6 t6 ⟨v,d6,p2,p3,p6,p29,hv,f6,hov⟩ st6 ar6
 show Code.wpIn _ _ _ _ _ _ _
 refine wpIn_block ?_
 rw[rf17_eq]
 refine wpIn_rangeFunc ?_
 intro fn _
 have hgs6:Step E0 h (fun id=>M id\/h.next<=id) w0 E6 h6 W6:=
  ((((st1.trans hr0 st2 fun _ _ h=>.inl h).trans hr0 st3 fun _ _ h=>.inl h).trans hr0 st4 fun _ _ h=>.inl h).trans hr0 st5 fun _ _ h=>.inl h).trans hr0 st6 fun _ _ h=>.inl h
 obtain⟨cv,hcv,h29⟩:=VR.fn1_ (p29 ▸ ar6.tm 29)
 have hsz6:=hgs6.size
 obtain⟨hgs7,nD7⟩:=hgs6.more (.deferred (some []))
 have hsz7:(W6.alloc (.deferred (some []))).heap.size=W6.heap.size+1:=by simp
 obtain⟨hgs8,nl8⟩:=hgs7.more (.loop (recO fn t6 W6.heap.size))
 rw[hsz7]at nl8
 have hl8:((W6.alloc (.deferred (some []))).alloc (.loop (recO fn t6 W6.heap.size))).heap[W6.heap.size+1]?=some (.loop (recO fn t6 W6.heap.size)):=by
  have:=World.alloc_heap_new (W6.alloc (.deferred (some []))) (.loop (recO fn t6 W6.heap.size))
  rwa [hsz7]at this
 have hD8:((W6.alloc (.deferred (some []))).alloc (.loop (recO fn t6 W6.heap.size))).heap[W6.heap.size]?=some (.deferred (some [])):=
  (RowKit.Below.heap_alloc _ _ _ (by rw[hsz7];omega)).trans (World.alloc_heap_new W6 _)
 refine⟨W6.heap.size+1,[{ target:=.collected W6.heap.size,args:=#[] }],(W6.alloc (.deferred (some []))).alloc (.loop (recO fn t6 W6.heap.size)),{ target:=.fn (.func 47) #[cv],args:=#[.func (.yield (W6.heap.size+1)) #[] #[]] },(W6.alloc (.deferred (some []))).alloc (.loop (recO fn t6 W6.heap.size)),47,
  #[.func (.yield (W6.heap.size+1)) #[] #[],cv],(W6.alloc (.deferred (some []))).alloc (.loop (recO fn t6 W6.heap.size)),run_enterLoop_outer _ _ _ _ _,resolve_run h29,fun _ _=>trivial,?_,fun h=>(by cases h),?_⟩
 ·simp[invoke,go_sem]
 generalize ((W6.alloc (.deferred (some []))).alloc (.loop (recO fn t6 W6.heap.size)))=W8 at *
 have ST8:ST E6 h6 W8 (W6.heap.size+1) W6.heap.size (recO fn t6 W6.heap.size):=⟨hgs8.rel,nl8,nD7,hl8,hD8⟩
 have f06:=f05.tr0 f6
 have n15:h.next<=h5.next:=f05.next
 have n14:h.next<=h4.next:=f4.next
 have iv8:IV h h6 vr vd v q b x l l.length nilS []:=⟨f06,f6.ob0 hor5,f6.ob0 hod,hov,.inl ⟨rfl,rfl⟩,fun id off n e=>(by cases e),fun y hy=>(by cases hy),(by simp[mirror])⟩
 refine(walk_ok hr0 hx (by omega) hw ⟨hvr,by omega,by omega,?_⟩ (by omega) (by omega) ST8 hgs8 iv8 ar6 d6 p6 hcv).mono ?_
 ·intro e
  have:=h4.lt _ _ hor4
  omega
 rintro e W9 ⟨⟨u,rfl⟩,E9,h9,acc,L,ST9,hgs9,hle9,iv9⟩
 have hend:=run_endLoop (P:=Try.prog) ST9.lb (by simp[recO])
 refine⟨none,_,hend,?_⟩
 have ST10:=ST9.put (r':={ (recO fn t6 W6.heap.size) with state:=.exhausted }) (by omega)
 have hgs10:=hgs9.put ST9.nl (by omega) (.loop { (recO fn t6 W6.heap.size) with state:=.exhausted })
 generalize W9.putObj (W6.heap.size+1) (.loop { (recO fn t6 W6.heap.size) with state:=.exhausted })=W10 at *
 show Code.wpIn _ _ _ _ _ _ _
 refine wpIn_seq ?_
 have ha9:=iv9.a.toR.one
 have ndr:vd≠vr:=fun e=>by
  have:=h4.lt _ _ hor4
  omega
 refine rgnT (N:=48) (W:=fun id=>M id\/h.next<=id) (K:=fun s' h'=>s'.ds=[]/\s'.tm 2=.ptr vr 0/\s'.tm 3=I 0/\Fr h9 h' (·=vr)/\h'.obj vr=some (mkO [I q,I b,acc] 3 24)) hF nd17_12 ST10.rel (ar6.mono hle9) ?_ ?_
 ·show evS _ _ _ _ _ _ KF _ _
  rw[e12,p2,p6]
  refine var_ld iv9.od rfl fun _=>?_
  refine st_all iv9.or_ rfl rfl (ones3 ha9.1) (.inr hvr) fun h10 f10 hor10=>?_
  exact⟨d6,d6,p2,rfl,f10,hor10⟩
 rintro s11 h11 E11 W11 t11 ⟨d11,p2,p3,f11,hor11⟩ st11 ar11
 obtain⟨h12,st12,ST12,sm12⟩:=ST10.step st11
 have hgs12:Step E0 h (fun id=>M id\/h.next<=id) w0 E11 h12 W11:=hgs10.trans hr0 st12 fun id _ hm=>.inl hm
 have hor12:=sm12.row _ _ hor11 rfl
 show Code.wpIn _ _ _ _ _ _ _
 refine wpIn_ret ?_
 refine⟨by simp,.inl ⟨_,_,rfl,run_takeDeferred ST12.db,?_⟩⟩
 have hgs13:=hgs12.put ST12.nD (by omega) (.deferred none)
 generalize W11.putObj W6.heap.size (.deferred none)=W13 at *
 obtain⟨vv,uu,b1,b2,b3⟩:=results_ok (P:=Try.prog) hgs13.rel ar11 Try.f17 (fun v=>v=.tup [.agg [I q,I b,acc],I 0]) (by
  rw[res17]
  simp only[aRes,ag24',sz24',p2,p3]
  refine var_ld hor12 rfl fun _=>?_
  rfl)
 subst b2
 refine⟨uu,b3,E11,h12,.ret _,hgs13,b1,?_⟩
 have fr11:Fr h9 h12 (·=vr):=sm12.fr f11
 have fr12:Fr h h12 (fun _=>False):=fr_set iv9.fr hvr fr11
 have hno:∀{id:Nat}{cs:List AV}{sz:Nat}{ty:TypeId},ty≠24->h9.obj id=some (mkO cs sz ty)->¬id=vr:=fun ht ho=>obj_ne ho iv9.or_ ht
 have kA:SlL encO 7 45 h12 acc L:=slL_ne iv9.a iv9.or_ (by decide) fr11
 have hq12:∀y∈L,SlR encI 1 3 h12 y.2 y.1.qubits:=fun y hy=>(slL_ne (iv9.qs y hy) iv9.or_ (by decide) fr11).toR
 refine hR h12 acc L fr12 ⟨kA.toR,hq12⟩ (slL_shape kA) ?_
 rw[iv9.e,List.drop_zero]
end
end
section
open Go.Ab
attribute [-simp] eAlloc_d eStore_f
theorem arity_b(n:ByteArray):arityT (backT n)=arityT n:=by
 unfold backT
 by_cases e1:n=⟨#[115]⟩;· subst e1;decide +kernel
 by_cases e2:n=⟨#[116]⟩;· subst e2;decide +kernel
 by_cases e3:n=⟨#[118]⟩;· subst e3;decide +kernel
 by_cases e4:n=⟨#[119]⟩;· subst e4;decide +kernel
 by_cases e5:n=⟨#[99,115]⟩;· subst e5;decide +kernel
 by_cases e6:n=⟨#[105,115,119,97,112]⟩;· subst e6;decide +kernel
 by_cases e7:n=⟨#[115,100,103]⟩;· subst e7;decide +kernel
 by_cases e8:n=⟨#[116,100,103]⟩;· subst e8;decide +kernel
 by_cases e9:n=⟨#[118,100,103]⟩;· subst e9;decide +kernel
 by_cases e10:n=⟨#[119,100,103]⟩;· subst e10;decide +kernel
 by_cases e11:n=⟨#[99,115,100,103]⟩;· subst e11;decide +kernel
 by_cases e12:n=⟨#[105,115,119,97,112,100,103]⟩;· subst e12;decide +kernel
 rw[zW e1,zW e2,zW e3,zW e4,zW e5,zW e6,zW e7,zW e8,zW e9,zW e10,zW e11,zW e12]
theorem halves_b(n:ByteArray):halvesT (backT n)=halvesT n:=by
 unfold backT
 by_cases e1:n=⟨#[115]⟩;· subst e1;decide +kernel
 by_cases e2:n=⟨#[116]⟩;· subst e2;decide +kernel
 by_cases e3:n=⟨#[118]⟩;· subst e3;decide +kernel
 by_cases e4:n=⟨#[119]⟩;· subst e4;decide +kernel
 by_cases e5:n=⟨#[99,115]⟩;· subst e5;decide +kernel
 by_cases e6:n=⟨#[105,115,119,97,112]⟩;· subst e6;decide +kernel
 by_cases e7:n=⟨#[115,100,103]⟩;· subst e7;decide +kernel
 by_cases e8:n=⟨#[116,100,103]⟩;· subst e8;decide +kernel
 by_cases e9:n=⟨#[118,100,103]⟩;· subst e9;decide +kernel
 by_cases e10:n=⟨#[119,100,103]⟩;· subst e10;decide +kernel
 by_cases e11:n=⟨#[99,115,100,103]⟩;· subst e11;decide +kernel
 by_cases e12:n=⟨#[105,115,119,97,112,100,103]⟩;· subst e12;decide +kernel
 rw[zW e1,zW e2,zW e3,zW e4,zW e5,zW e6,zW e7,zW e8,zW e9,zW e10,zW e11,zW e12]
theorem arity_back(n:ByteArray):arityT (backT n)=arityT n/\halvesT (backT n)=halvesT n:=⟨arity_b n,halves_b n⟩
theorem mir_fault{q b:Int}{o:COp}(h:NoFlt q b o)(hk:o.kind=1):NoFlt q b (mir o):=by
 obtain⟨e1,e2,e3,e4,e5,e6,e7⟩:=h
 refine⟨e1,?_,fun _=>?_,?_,e5,e6,e7⟩
 ·unfold badName at e2 ⊢
  simp only[mir,hk]at e2 ⊢
  simpa using e2
 ·show arityT (backT o.name)≠0
  rw[(arity_back _).1];exact e3 hk
 ·show(o.qubits.length:Int)=if o.kind=1 then arityT (backT o.name) else 1
  rw[(arity_back _).1];exact e4
theorem mir_halves{o:COp}:halvesP (mir o)=halvesP o:=by
 show(if o.kind=1 then halvesT (backT o.name) else 0)=if o.kind=1 then halvesT o.name else 0
 rw[(arity_back _).2]
theorem mirror_ck{q b:Int}{ops:List COp}(hk:CK q b ops)(hg:∀o∈ops,o.kind=1):CK q b (mirror ops):=by
 refine⟨hk.r,by rw[mirror_len];exact hk.n,fun o ho=>?_,?_⟩
 ·obtain⟨y,hy,rfl⟩:=List.mem_map.1 ho
  have hy:=List.mem_reverse.1 hy
  exact fault_iff.2 (mir_fault (fault_iff.1 (hk.f y hy)) (hg y hy))
 ·have:(mirror ops).map halvesP=(ops.map halvesP).reverse:=by
   unfold mirror
   rw[List.map_map,<-List.map_reverse]
   exact List.map_congr_left fun o _=>mir_halves
  rw[this,List.sum_reverse]
  exact hk.h
theorem mirror_mok{ops:List COp}(hm:∀o∈ops,MOK o):∀o∈mirror ops,MOK o:=fun o ho=>by
 obtain⟨y,hy,rfl⟩:=List.mem_map.1 ho
 exact hm y (List.mem_reverse.1 hy)
theorem stepC_kind{ops m:List COp}(hg:∀o∈ops,o.kind=1)(h:stepC ops=some m):∀o∈m,o.kind=1:=by
 rw[<-bare_fst (ops:=ops),stepC_of]at h
 cases hs:stepF (bare ops) with
 |none=>rw[hs]at h;cases h
 |some g=>
  rw[hs]at h
  simp only[yB,zQ]at h
  subst h
  intro o ho
  obtain⟨y,hy,rfl⟩:=List.mem_map.1 ho
  obtain⟨k,z,hz,e⟩:=withG_mem hy
  have hz1:z.1.kind=1:=by
   have:=zP hz
   unfold bare at this
   obtain⟨o,ho,rfl⟩:=List.mem_map.1 this
   exact hg o ho
  rcases e with rfl |⟨_,_,rfl⟩
  ·exact hz1
  ·exact hz1
theorem runT_kind:∀{n:Nat}{ops:List COp},ops.length<=n->(∀o∈ops,o.kind=1)->∀o∈runT ops,o.kind=1:=by
 intro n
 induction n with
 |zero=>
  intro ops hl hg
  cases hs:stepC ops with
  |none=>rw[runT_none hs];exact hg
  |some m=>have:=stepC_lt hs;omega
 |succ n ih=>
  intro ops hl hg
  cases hs:stepC ops with
  |none=>rw[runT_none hs];exact hg
  |some m=>
   rw[runT_some hs]
   have:=stepC_lt hs
   exact ih (by omega) (stepC_kind hg hs)
theorem run_undone{q b:Int}{ops:List COp}(hk:CK q b ops)(hm:∀o∈ops,MOK o)(hg:∀o∈ops,o.kind=1):runT (runT ops++mirror (runT ops))=[]:=by
 obtain⟨k1,_,k3⟩:=runT_ck (zU _) hk hm
 refine undone (zU _) (irr_iff.1 k3) fun o ho=>⟨runT_kind (zU _) hg o ho,?_⟩
 exact((fault_iff.1 (k1.f o ho)).wo (y:=(o,nilS))).2.2
section
variable {h:AH} {M:Nat->Prop} {R:AE->AH->Prop} {x:AV} {l:List (COp×AV)} {q b:Int}
theorem law_undone(hx:OpsL h x l)(hs:slShape x l.length)(hl:l.length<=9223372036854775807)(hql:∀y∈l,y.1.qubits.length<=9223372036854775807)(hm:∀y∈l,MOK y.1)(hR:∀h',R (.ret (B true)) h'):ACalls Try.prog 5 [.agg [I q,I b,x]] h M R:=by
 apply F5.callsN
 unfold F5.n28
 refine box_var (cs:=[I q,I b,x]) (ones3 hx.tab.one.1) fun vc h1 f1 hn1 hoc=>?_
 unfold F5.n27
 refine⟨fun _=>False,fun _ h=>h.elim,awake_ok fun h2 f2=>?_⟩
 have hoc:=f2.ob0 hoc
 have f12:=f1.tr0 f2
 simp only[pUn_not,zS,F5.n26,aIf_b,zE,zC,zD,zH]
 unfold F5.n24
 refine var_ld hoc rfl fun _=>?_
 have hx2:=hx.fr0 f12
 refine⟨fun _=>False,fun _ h=>h.elim,clean_ok hx2 hql (fun h3 f3 he=>?_) fun h3 f3 hk=>?_⟩
 ·simp only[pExt_tup,zA,zB,cellK_some]
  unfold F5.n23
  refine var_ld (f3.ob0 hoc) rfl fun _=>?_
  refine⟨fun _=>False,fun _ h=>h.elim,great_ok (hx2.fr0 f3) hl (fun h4 f4=>?_) fun h4 f4 _ _=>?_⟩
  ·simp only[F5.n22,F5.n21,F5.n20,F5.n19,F5.n18,F5.n17,aIg_b,aIf_b,pPick_b,zT,zS,zE,zF,zV,if_false,zC,zD,zH,zI]
   exact hR h4
  ·simp only[F5.n22,F5.n21,F5.n20,F5.n19,F5.n18,F5.n17,aIg_b,aIf_b,pPick_b,pBin_neq,int_bne,zK he,zT,zS,zE,zF,zV,if_false,zC,zD,zH,zI]
   exact hR h4
 simp only[pExt_tup,zA,zB,cellK_some]
 unfold F5.n23
 have hoc:=f3.ob0 hoc
 have f13:=f12.tr0 f3
 refine var_ld hoc rfl fun _=>?_
 refine⟨fun _=>False,fun _ h=>h.elim,great_ok (hx.fr0 f13) hl (fun h4 f4=>?_) fun h4 f4 hl80 hq80=>?_⟩
 ·simp only[F5.n22,F5.n21,F5.n20,F5.n19,F5.n18,F5.n17,aIg_b,aIf_b,pPick_b,zT,zS,zE,zF,zV,if_false,zC,zD,zH,zI]
  exact hR h4
 cases hc:(l.any fun y=>!cleanB y.1) with
 |true=>
  simp only[F5.n22,F5.n21,F5.n20,F5.n19,F5.n18,F5.n17,aIg_b,aIf_b,pPick_b,pBin_neq,bne_self_eq_false,pUn_not,zT,zS,zE,zF,zV,if_false,zC,zD,zH,zI]
  exact hR h4
 |false=>
 simp only[F5.n22,F5.n21,F5.n20,F5.n19,F5.n18,aIg_b,aIf_b,pPick_b,pBin_neq,bne_self_eq_false,pUn_not,zT,zS,zE,zF,zV,if_false,zC,zD,zH,zI]
 have hg:∀o∈l.map (·.1),o.kind=1:=fun o ho=>by
  obtain⟨y,hy,rfl⟩:=List.mem_map.1 ho
  have:=List.any_eq_false.1 hc y hy
  simp[cleanB]at this
  exact this.1
 have hmo:∀o∈l.map (·.1),MOK o:=fun o ho=>by obtain⟨y,hy,rfl⟩:=List.mem_map.1 ho;exact hm y hy
 have hoc:=f4.ob0 hoc
 have f14:=f13.tr0 f4
 unfold F5.n16
 refine var_ld hoc rfl fun _=>?_
 refine⟨fun _=>False,fun _ h=>h.elim,optRun_u (hx.fr0 f14) hs hql hm fun h5 xr yr f5 hxr hyr=>?_⟩
 have hS:outR q b (l.map (·.1))=⟨q,b,runT (l.map (·.1)),false,0⟩:=by unfold outR;rw[zW (by have:=check_iff.2 hk;omega)]
 rw[hS]at hyr ⊢
 simp only at hyr
 simp only[pExt_tup,zA,zB,cellK_some]
 obtain⟨k1,m1,_⟩:=runT_ck (zU _) hk hmo
 have g1:=runT_kind (zU _) hg
 have hu:=run_undone hk hmo hg
 rw[<-hyr]at k1 m1 g1 hu
 have f15:=f14.tr0 f5
 refine st_all (f5.ob0 hoc) rfl rfl (ones3 hxr.ops.tab.one.1) (.inr hn1) fun h6 f6 hoc=>?_
 have hxr6:OpsL h6 xr yr:=ops_set (f5.ob0 (by assumption)) f6 hxr.ops
 have f16:=fr_set f15 hn1 f6
 have hsr:slShape xr yr.length:=slL_shape hxr.o
 unfold F5.n15
 refine var_ld hoc rfl fun _=>?_
 refine⟨fun _=>False,fun _ h=>h.elim,inverse17_ok hxr6 k1 (fun y hy=>g1 _ (List.mem_map_of_mem hy)) fun h7 xb yb f7 hxb hsb hyb=>?_⟩
 simp only[pExt_tup,zA,zB,cellK_some]
 have f17:=f16.tr0 f7
 refine new_var (cs:=[I q,I b,xb]) (ones3 hxb.tab.one.1) rfl rfl rfl (fun id hid=>.inr (zR f17.next hid)) fun vb h8 f8 hn8 hob=>?_
 have f18:=f17.tr0 f8
 have hoc:=(f7.tr0 f8).ob0 hoc
 have hxr8:=hxr6.fr0 (f7.tr0 f8)
 have hxb8:=hxb.fr0 f8
 simp only[F5.n14,F5.n13,F5.n12,F5.n11,aIg_b,aIf_b,pPick_b,pBin_neq,bne_self_eq_false,zT,zS,zE,zF,zV,if_false,zC,zD,zH,zI]
 unfold F5.n9
 refine var_ld hoc rfl fun _=>?_
 refine var_ld hob rfl fun _=>?_
 have kb:CK q b (yb.map (·.1)):=by rw[hyb];exact mirror_ck k1 g1
 refine⟨fun _=>False,fun _ h=>h.elim,then_ok hxr8 hxb8 k1 kb (fun h9 e f9 he=>?_) fun h9 xt yt f9 kt hxt hst hyt=>?_⟩
 ·simp only[pExt_tup,zA,zB,cellK_some]
  refine new_var (cs:=[I 0,I 0,nilS]) rfl rfl rfl rfl (fun id hid=>.inr (zR (f18.tr0 f9).next hid)) fun v2 h10 f10 _ _=>?_
  simp only[F5.n8,F5.n7,F5.n6,aIf_b,pBin_neq,int_bne,zK he,zT,zF,zC,zD,zI]
  exact hR h10
 simp only[pExt_tup,zA,zB,cellK_some]
 have f19:=f18.tr0 f9
 refine new_var (cs:=[I q,I b,xt]) (ones3 hxt.tab.one.1) rfl rfl rfl (fun id hid=>.inr (zR f19.next hid)) fun vt h10 f10 hn10 hot=>?_
 have f110:=f19.tr0 f10
 simp only[F5.n8,F5.n7,aIf_b,pBin_neq,bne_self_eq_false,zE,zC,zD,zH]
 unfold F5.n5
 refine var_ld hot rfl fun _=>?_
 rw[<-hyt]at kt
 have mt:∀o∈yt.map (·.1),MOK o:=fun o ho=>by
  rw[hyt]at ho
  rcases List.mem_append.1 ho with ho |ho
  ·exact m1 o ho
  ·rw[hyb]at ho;exact mirror_mok m1 o ho
 refine⟨fun _=>False,fun _ h=>h.elim,optRun_u (hxt.fr0 f10) hst (fun y hy=>by have:=(kt.wo y hy).1.1;omega) (fun y hy=>mt _ (List.mem_map_of_mem hy)) fun h11 xe ye f11 hxe hye=>?_⟩
 have hT:outR q b (yt.map (·.1))=⟨q,b,runT (yt.map (·.1)),false,0⟩:=by unfold outR;rw[zW (by have:=check_iff.2 kt;omega)]
 rw[hT]at hye ⊢
 simp only at hye
 rw[hyt,hyb,hu]at hye
 have hnil:ye=[]:=List.map_eq_nil_iff.1 hye
 subst hnil
 simp only[pExt_tup,zA,zB,cellK_some]
 have f111:=f110.tr0 f11
 refine new_var (cs:=[I q,I b,xe]) (ones3 hxe.ops.tab.one.1) rfl rfl rfl (fun id hid=>.inr (zR f111.next hid)) fun ve h12 f12' hn12 hoe=>?_
 have hln:=hxe.ops.tab.len
 simp only[F5.n4,F5.n3,aIg_b,pBin_eql,beq_self_eq_true,zS,zF,zC,zD,zH,zI]
 refine var_fld hoe rfl fun _=>?_
 simp only[hln.1,hln.2,zH,F5.n2,pBin_eql,List.length_nil,pPick_b,zV,F5.n1]
 exact hR h12
end
end
end Go.Proofs.Ytbdibjgoeeokoaa
