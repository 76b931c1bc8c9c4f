/- A table of named rows that a world bears, and the operations that read and act over it, each as the model has it. No condition. -/
import Derived.WalkKit
import Derived.KernelRfl
import Derived.Deep.AppendLies
import Derived.OrdersHeld
import Derived.Defers
import Derived.Recover
import Derived.Laws.StructEq
import Derived.Laws.BytesString
import Derived.Lib.AppendStr
set_option maxRecDepth 100000
namespace Go.Ab
theorem zA.{u}:∀{α:Type u}{a:α}{l:List α},(a::l)[0]?=some a:=@List.getElem?_cons_zero
theorem zB.{u}:∀{α:Type u}{a:α}{i:Nat}{l:List α},(a::l)[i+1]?=l[i]?:=@List.getElem?_cons_succ
theorem zC:∀p:Prop,(False->p)=True:=@false_implies
theorem zD:∀p:Prop,(True->p)=p:=@true_implies
theorem zE:(false=true)=False:=@Bool.false_eq_true
theorem zF:(true=false)=False:=@Bool.true_eq_false
theorem zG:∀n:Nat,0+n=n:=@Nat.zero_add
theorem zH:∀p:Prop,(True/\p)=p:=@true_and
theorem zI:∀p:Prop,(p/\True)=p:=@and_true
theorem zJ.{u}:∀{α:Type u}{l:List α}{i:Nat}(h:i<l.length),l[i]?=some l[i]:=@List.getElem?_eq_getElem
theorem zK:∀{p:Prop}[inst:Decidable p],¬p->decide p=false:=@decide_eq_false
theorem zL:∀{p:Prop}[inst:Decidable p],p->decide p=true:=@decide_eq_true
theorem zM.{u}:∀{α:Type u}{i:Nat}{a:α}{l:List α},l[i]?=some a↔∃h:i<l.length,l[i]=a:=@List.getElem?_eq_some_iff
theorem zN.{u}:∀{α:Type u}{x:α}{xs:List α}{d:α},(x::xs).getD 0 d=x:=@List.getD_cons_zero
theorem zO.{u}:∀{α:Type u}{x:α}{xs:List α}{n:Nat}{d:α},(x::xs).getD (n+1) d=xs.getD n d:=@List.getD_cons_succ
theorem zP.{u}:∀{α:Type u}{l:List α}{i:Nat}{a:α},l[i]?=some a->a∈l:=@List.mem_of_getElem?
theorem zQ.{u}:∀{α:Type u}(a b:α),(some a=some b)=(a=b):=@Option.some.injEq
theorem zR:∀{n m k:Nat},n<=m->m<=k->n<=k:=@Nat.le_trans
theorem zS:(!true)=false:=@Bool.not_true
theorem zT:(!false)=true:=@Bool.not_false
theorem zU:∀n:Nat,n<=n:=@Nat.le_refl
theorem zV.{u}:∀{α:Sort u}{x:Decidable True}(t e:α),(if True then t else e)=t:=@if_true
theorem zW.{u}:∀{c:Prop}{h:Decidable c},¬c->∀{α:Sort u}{t e:α},(if c then t else e)=e:=@if_neg
theorem zX.{u}:∀{c:Prop}{h:Decidable c},c->∀{α:Sort u}{t e:α},(if c then t else e)=t:=@if_pos
theorem zY:∀n:Nat,((n:Int).toNat)=n:=@Int.toNat_natCast
theorem zZ.{u,v}:∀{α:Type u}{β:Type v}{as:List α}(f:α->β), (List.map f as).length=as.length:=@List.length_map
theorem yA.{u}:∀{α:Type u}{i:Nat}{l:List α},(List.take i l).length =min i l.length:=@List.length_take
theorem yB.{u,v}:∀{α:Type u}{β:Type v}(a:α)(f:α->β),Option.map f (some a)=some (f a):=@Option.map_some
theorem yC:∀a b:Bool,((a&&b)=true)=(a=true/\b=true):=@Bool.and_eq_true
end Go.Ab
namespace Go.Ab
section
inductive AV where
 |sc (v:Value)
 |ptr (id off:Nat)
 |sl (id off len:Nat)
 |agg (l:List AV)
 |cP (l:List AV)
 |kx (t:TypeId) (v:AV)
 |fn (f:Fn) (first captured:List AV)
 |mp (id:Nat)
 deriving Inhabited
structure oE where
 b:Nat
 n:Nat
 sz:Nat
 o:Nat:=0
abbrev Env:=Nat->Option oE
mutual
inductive VR (E:Env):AV->Value->Prop
 |sc (v:Value):VR E (.sc v) v
 |ptr {id off:Nat} {B:oE}:E id=some B->VR E (.ptr id off) (.pointer (some ⟨B.b,B.o+off,none⟩))
 |sl {id off len o cap:Nat} {B:oE}:E id=some B->(o=B.o+off\/(cap=0/\0<off))->off+cap*B.sz=B.n->len<=cap->cap<=maxLen ->
   VR E (.sl id off len) (.slice (some ⟨B.b,o,none⟩) len cap)
 |agg {l:List AV} {vs:List Value}:cu E l vs->VR E (.agg l) (.agg vs.toArray)
 |cP {l:List AV} {vs:List Value}:cu E l vs->VR E (.cP l) (.tuple vs.toArray)
 |kx {t:TypeId} {a:AV} {v:Value}:VR E a v->VR E (.kx t a) (.iface t v)
 |fn {f:Fn} {fs cs:List AV} {vs ws:List Value}:cu E fs vs->cu E cs ws->VR E (.fn f fs cs) (.func f vs.toArray ws.toArray)
 |mp {id:Nat} {B:oE}:E id=some B->VR E (.mp id) (.map (some B.b))
inductive cu (E:Env):List AV->List Value->Prop
 |nil:cu E [] []
 |cons {a:AV} {v:Value} {l:List AV} {vs:List Value}:VR E a v->cu E l vs->cu E (a::l) (v::vs)
end
def Env.le(E E':Env):Prop:=∀id B,E id=some B->E' id=some B
mutual
theorem VR.mono{E E':Env}(hE:E.le E'):∀{a:AV}{v:Value},VR E a v->VR E' a v
 |_,_,.sc v=>.sc v
 |_,_,.ptr h=>.ptr (hE _ _ h)
 |_,_,.sl h a b c d=>.sl (hE _ _ h) a b c d
 |_,_,.agg h=>.agg (cu.mono hE h)
 |_,_,.cP h=>.cP (cu.mono hE h)
 |_,_,.kx h=>.kx (VR.mono hE h)
 |_,_,.fn h k=>.fn (cu.mono hE h) (cu.mono hE k)
 |_,_,.mp h=>.mp (hE _ _ h)
theorem cu.mono{E E':Env}(hE:E.le E'):∀{l:List AV}{vs:List Value},cu E l vs->cu E' l vs
 |_,_,.nil=>.nil
 |_,_,.cons h k=>.cons (VR.mono hE h) (cu.mono hE k)
end
theorem cu.length{E:Env}:∀{l:List AV}{vs:List Value},cu E l vs->l.length=vs.length
 |_,_,.nil=>rfl
 |_,_,.cons _ k=>by simp[cu.length k]
theorem cu.get{E:Env}:∀{l:List AV}{vs:List Value},cu E l vs->∀{i:Nat}{a:AV},l[i]?=some a->∃v,vs[i]?=some v/\VR E a v
 |_,_,.nil,i,a,h=>by simp at h
 |_,_,.cons (v:=v) h k,0,a,hi=>by simp at hi;subst hi;exact⟨v,by simp,h⟩
 |_,_,.cons h k,i+1,a,hi=>by
  simp only[zB]at hi ⊢
  exact cu.get k hi
theorem cu.append{E:Env}{l m:List AV}{vs ws:List Value}(h:cu E l vs)(k:cu E m ws):cu E (l++m) (vs++ws):=by
 induction l generalizing vs with
 |nil=>cases h;simpa using k
 |cons a l ih=>cases h with |cons h1 h2=>exact .cons h1 (ih h2)
theorem cu.wv{E:Env}:∀(l:List AV)(vs:List Value),l.length=vs.length->(∀(i:Nat)(a:AV)(v:Value),l[i]?=some a->vs[i]?=some v->VR E a v)->cu E l vs
 |[],[],_,_=>.nil
 |[],_::_,h,_=>by simp at h
 |_::_,[],h,_=>by simp at h
 |a::l,v::vs,h,k=>.cons (k 0 a v rfl rfl) (cu.wv l vs (by simpa using h) fun i a v h1 h2=>k (i+1) a v (by simpa using h1) (by simpa using h2))
inductive Kind where
 |row
 |iter (s:ByteArray) (pos:Nat)
 |FW (b:Nat) (ob:Go.Obj)
 |map (l:List (AV×AV))
structure AO where
 cells:List AV
 sz:Nat
 ty:TypeId
 ro:Bool:=false
 kind:Kind:=.row
structure AH where
 obj:Nat->Option AO
 next:Nat
 lt:∀id o,obj id=some o->id<next
def AH.alloc(h:AH)(o:AO):AH where
 obj id:=if id=h.next then some o else h.obj id
 next:=h.next+1
 lt id o' hi:=by
  split at hi
  ·omega
  ·have:=h.lt _ _ hi;omega
def AH.eP(h:AH)(id:Nat)(f:AO->AO):AH where
 obj i:=if i=id then(h.obj i).map f else h.obj i
 next:=h.next
 lt i o hi:=by
  split at hi
  ·cases ho:h.obj i with
   |none=>rw[ho]at hi;simp at hi
   |some o'=>exact h.lt _ _ ho
  ·exact h.lt _ _ hi
def AH.del(h:AH)(id:Nat):AH where
 obj i:=if i=id then none else h.obj i
 next:=h.next
 lt i o hi:=by
  split at hi
  ·cases hi
  ·exact h.lt _ _ hi
def CR(E:Env)(cells:List AV)(arr:Array Value):Prop:=
 ∀(i:Nat)(c:AV),cells[i]?=some c->∃v:Value,arr[i]?=some v/\VR E c v/\v.oneCell'=true
def BV(E:Env)(k:Nat)(cells:List AV)(arr:Array Value):Prop:=
 ∀(i:Nat)(c:AV),cells[i]?=some c->∃v:Value,arr[k+i]?=some v/\VR E c v/\v.oneCell'=true
theorem BV.zero{E:Env}{k:Nat}{cells:List AV}{arr:Array Value}(hk:k=0)(h:BV E k cells arr):CR E cells arr:=by
 subst hk
 intro i c hi
 simpa using h i c hi
theorem CR.J9{E:Env}{cells:List AV}{arr:Array Value}(h:CR E cells arr):BV E 0 cells arr:=by
 intro i c hi
 simpa using h i c hi
def O6(E:Env)(o:AO)(B:oE)(w:World):Prop:=
 ∃arr fz,w.heap[B.b]?=some (.cells arr o.ty fz)/\(o.ro=false->fz=(0,0)/\arr.size=B.n/\B.o=0)/\o.cells.length<=B.n/\B.sz=o.sz/\BV E B.o o.cells arr
inductive MR (E:Env):List (AV×AV)->List MapEntry->Prop
 |nil:MR E [] []
 |cons {k v:AV} {l:List (AV×AV)} {e:MapEntry} {es:List MapEntry}:VR E k e.key->VR E v e.val->MR E l es->MR E ((k,v)::l) (e::es)
theorem MR.mono{E E':Env}(hE:E.le E'):∀{l:List (AV×AV)}{es:List MapEntry},MR E l es->MR E' l es
 |_,_,.nil=>.nil
 |_,_,.cons h k r=>.cons (h.mono hE) (k.mono hE) (r.mono hE)
def OR(E:Env)(o:AO)(B:oE)(w:World):Prop:=
 match o.kind with
 |.row=>O6 E o B w
 |.iter s p=>B.o=0/\w.heap[B.b]?=some (.stringIter s p)
 |.FW b ob=>B.b=b/\w.heap[b]?=some ob
 |.map l=>B.o=0/\∃es clock,w.heap[B.b]?=some (.map es clock)/\MR E l es.toList
theorem OR.row{E:Env}{o:AO}{B:oE}{w:World}(h:OR E o B w)(hk:o.kind=.row):O6 E o B w:=by
 unfold OR at h;rw[hk]at h;exact h
theorem OR.A7{E:Env}{o:AO}{B:oE}{w:World}(hk:o.kind=.row)(h:O6 E o B w):OR E o B w:=by
 unfold OR;rw[hk];exact h
theorem OR.lt{E:Env}{o:AO}{B:oE}{w:World}(h:OR E o B w):B.b<w.heap.size:=by
 unfold OR at h
 split at h
 ·obtain⟨arr,fz,h1,_⟩:=h
  exact(Array.getElem?_eq_some_iff.1 h1).1
 ·exact(Array.getElem?_eq_some_iff.1 h.2).1
 ·rw[h.1];exact(Array.getElem?_eq_some_iff.1 h.2).1
 ·obtain⟨_,es,c,h1,_⟩:=h;exact(Array.getElem?_eq_some_iff.1 h1).1
theorem OR.mono{E E':Env}{o:AO}{B:oE}{w w':World}(h:OR E o B w)(hE:E.le E')(hw:w'.heap[B.b]?=w.heap[B.b]?):OR E' o B w':=by
 unfold OR at *
 split at h
 ·obtain⟨arr,fz,h1,h2,h3,h4,h5⟩:=h
  exact⟨arr,fz,by rw[hw];exact h1,h2,h3,h4,fun i c hi=>let ⟨v,a,b,d⟩:=h5 i c hi;⟨v,a,b.mono hE,d⟩⟩
 ·rw[hw];exact h
 ·exact⟨h.1,by rw[<-h.1,hw,h.1];exact h.2⟩
 ·obtain⟨h0,es,c,h1,h2⟩:=h;exact⟨h0,es,c,by rw[hw];exact h1,h2.mono hE⟩
structure Rel (E:Env) (h:AH) (w:World):Prop where
 obj:∀id o,h.obj id=some o->∃B,E id=some B/\OR E o B w
 inj:∀i j oi oj Bi Bj,h.obj i=some oi->h.obj j=some oj->E i=some Bi->E j=some Bj->Bi.b=Bj.b->i=j\/(oi.ro=true/\oj.ro=true)
 fresh:∀id,h.next<=id->E id=none
structure Step (E:Env) (h:AH) (M:Nat->Prop) (w:World) (E':Env) (h':AH) (w':World):Prop where
 env:E.le E'
 rel:Rel E' h' w'
 next:h.next<=h'.next
 dr:∀id,id<h.next->¬M id->h'.obj id=h.obj id
 dead:∀id,id<h.next->h.obj id=none->h'.obj id=none
 os:w'.os=w.os
 tape:w'.tape=w.tape
 output:w'.output=w.output
 size:w.heap.size<=w'.heap.size
 frame:∀b,b<w.heap.size->(∀id B o,M id->h.obj id=some o->o.ro=false->E id=some B->B.b≠b)->w'.heap[b]?=w.heap[b]?
 zw:∀id B o,h'.obj id=some o->o.ro=false->E' id=some B->h.next<=id->w.heap.size<=B.b\/∃j C oj,M j/\h.obj j=some oj/\oj.ro=false/\E j=some C/\C.b=B.b
 AW:∀id o o',h.obj id=some o->h'.obj id=some o'->o.ro=true->o'.ro=true
theorem Step.refl{E:Env}{h:AH}{M:Nat->Prop}{w:World}(hr:Rel E h w):Step E h M w E h w where
 env _ _ h:=h
 rel:=hr
 next:=zU _
 dr _ _ _:=rfl
 dead _ _ h:=h
 os:=rfl
 tape:=rfl
 output:=rfl
 size:=zU _
 frame _ _ _:=rfl
 zw id B o h1 _ _ h3:=by have:=h.lt _ _ h1;omega
 AW id o o' h1 h2 h3:=by rw[h1]at h2;cases h2;exact h3
theorem Rel.Wd{E:Env}{h:AH}{w:World}(hr:Rel E h w){id:Nat}(hn:h.obj id≠none):∃B,E id=some B:=by
 cases ho:h.obj id with
 |none=>exact absurd ho hn
 |some o=>obtain⟨B,hB,_⟩:=hr.obj _ _ ho;exact⟨B,hB⟩
theorem AH.K3{h:AH}{id:Nat}(hn:h.obj id≠none):id<h.next:=by
 cases ho:h.obj id with
 |none=>exact absurd ho hn
 |some o=>exact h.lt _ _ ho
theorem Step.trans{E E1 E2:Env}{h h1 h2:AH}{M M1:Nat->Prop}{w w1 w2:World}(hr:Rel E h w)(a:Step E h M w E1 h1 w1)(b:Step E1 h1 M1 w1 E2 h2 w2)
  (hM:∀id,id<h1.next->M1 id->M id\/h.next<=id):Step E h M w E2 h2 w2 where
 env:=fun id B h=>b.env id B (a.env id B h)
 rel:=b.rel
 next:=zR a.next b.next
 dr id aJ hm:=by
  rw[b.dr id (Nat.lt_of_lt_of_le aJ a.next) (fun h=>(hM id (Nat.lt_of_lt_of_le aJ a.next) h).elim hm (fun h=>by omega)),a.dr id aJ hm]
 dead id aJ h0:=b.dead id (Nat.lt_of_lt_of_le aJ a.next) (a.dead id aJ h0)
 os:=b.os.trans a.os
 tape:=b.tape.trans a.tape
 output:=b.output.trans a.output
 size:=zR a.size b.size
 frame bl hb kZ:=by
  rw[b.frame bl (Nat.lt_of_lt_of_le hb a.size) ?_,a.frame bl hb kZ]
  intro id B o1 Vn gC fc hE
  have Vp:=h1.lt _ _ gC
  by_cases ll:h.next<=id
  ·rcases a.zw id B o1 gC fc hE ll with h3 |⟨j,C,oj,h4,h5,V3,h6,h7⟩
   ·omega
   ·rw[<-h7];exact kZ j C oj h4 h5 V3 h6
  ·have hm:M id:=(hM id Vp Vn).elim (fun h=>h) (fun h=>absurd h ll)
   cases kK:h.obj id with
   |none=>have:=a.dead id (by omega) kK;rw[gC]at this;cases this
   |some o0=>
    have NZ:o0.ro=false:=by
     cases hh:o0.ro with
     |false=>rfl
     |true=>have:=a.AW id o0 o1 kK gC hh;rw[fc]at this;cases this
    obtain⟨B0,fN,_⟩:=hr.obj id o0 kK
    have:=a.env id B0 fN
    rw[hE]at this
    cases this
    exact kZ id B o0 hm kK NZ fN
 zw id B o2 gC fc hE ll:=by
  have back:∀j C oj,h1.obj j=some oj->oj.ro=false->E1 j=some C->(M j\/h.next<=j)->w.heap.size<=C.b\/∃k D ok,M k/\h.obj k=some ok/\ok.ro=false/\E k=some D/\D.b=C.b:=by
   intro j C oj hj U5 hC FA
   by_cases ll:h.next<=j
   ·exact a.zw j C oj hj U5 hC ll
   ·have hm:M j:=FA.elim (fun h=>h) (fun h=>absurd h ll)
    cases kK:h.obj j with
    |none=>have:=a.dead j (by omega) kK;rw[hj]at this;cases this
    |some o0=>
     have NZ:o0.ro=false:=by
      cases hh:o0.ro with
      |false=>rfl
      |true=>have:=a.AW j o0 oj kK hj hh;rw[U5]at this;cases this
     obtain⟨B0,fN,_⟩:=hr.obj j o0 kK
     have:=a.env j B0 fN
     rw[hC]at this
     cases this
     exact .inr ⟨j,C,o0,hm,kK,NZ,fN,rfl⟩
  by_cases dP:h1.next<=id
  ·rcases b.zw id B o2 gC fc hE dP with h3 |⟨j,C,oj,h4,h5,V3,h6,h7⟩
   ·exact .inl (zR a.size h3)
   ·rw[<-h7]
    exact back j C oj h5 V3 h6 (hM j (h1.lt _ _ h5) h4)
  ·cases kK:h1.obj id with
   |none=>have:=b.dead id (by omega) kK;rw[gC]at this;cases this
   |some o1=>
    have aaS:o1.ro=false:=by
     cases hh:o1.ro with
     |false=>rfl
     |true=>have:=b.AW id o1 o2 kK gC hh;rw[fc]at this;cases this
    obtain⟨B0,fN,_⟩:=a.rel.obj id o1 kK
    have:=b.env id B0 fN
    rw[hE]at this
    cases this
    exact back id B o1 kK aaS fN (.inr ll)
 AW id o o' dP eB oQ:=by
  cases kK:h1.obj id with
  |none=>have:=b.dead id (h.lt _ _ dP |> fun hl=>Nat.lt_of_lt_of_le hl a.next) kK;rw[eB]at this;cases this
  |some o1=>exact b.AW id o1 o' kK eB (a.AW id o o1 dP kK oQ)
theorem Rel.of_heap{E:Env}{h:AH}{w w':World}(hr:Rel E h w)(hh:w'.heap=w.heap):Rel E h w' where
 obj id o ho:=by
  obtain⟨B,hB,hO⟩:=hr.obj id o ho
  exact⟨B,hB,hO.mono (fun _ _ h=>h) (by rw[hh])⟩
 inj:=hr.inj
 fresh:=hr.fresh
theorem Step.drew{E:Env}{h:AH}{M:Nat->Prop}{w w':World}(hr:Rel E h w)(hh:w'.heap=w.heap)(ho:w'.os=w.os)(ht:w'.tape=w.tape)(hu:w'.output=w.output) :
  Step E h M w E h w' where
 env _ _ h:=h
 rel:=hr.of_heap hh
 next:=zU _
 dr _ _ _:=rfl
 dead _ _ h:=h
 os:=ho
 tape:=ht
 output:=hu
 size:=by rw[hh];exact zU _
 frame _ _ _:=by rw[hh]
 zw id B o h1 _ _ h3:=by have:=h.lt _ _ h1;omega
 AW id o o' h1 h2 h3:=by rw[h1]at h2;cases h2;exact h3
end
section
def Env.put(E:Env)(id:Nat)(B:oE):Env:=fun i=>if i=id then some B else E i
theorem Env.La{E:Env}{id:Nat}{B:oE}(h:E id=none):E.le (E.put id B):=by
 intro i C hi
 unfold Env.put
 split
 ·rename_i e;subst e;rw[h]at hi;cases hi
 ·exact hi
theorem Step.GC{E:Env}{h:AH}{M:Nat->Prop}{w:World}(hr:Rel E h w){o:AO}(ob:Go.Obj)(n sz:Nat)
  (hc:∀E' w',E.le E'->w'.heap[w.heap.size]?=some ob->OR E' o ⟨w.heap.size,n,sz,0⟩ w') :
  Step E h M w (E.put h.next ⟨w.heap.size,n,sz,0⟩) (h.alloc o) (w.alloc ob):=by
 have hle:E.le (E.put h.next ⟨w.heap.size,n,sz,0⟩):=Env.La (hr.fresh _ (zU _))
 have hold:∀k,k<w.heap.size->(w.alloc ob).heap[k]?=w.heap[k]?:=fun k hk=>RowKit.Below.heap_alloc _ _ _ hk
 have Od:(w.alloc ob).heap[w.heap.size]?=some ob:=by
  show(w.heap.push _)[w.heap.size]?=_
  simp
 refine⟨hle,⟨?_,?_,?_⟩,by simp[AH.alloc],fun id aJ _=>?_,fun id aJ h0=>?_,rfl,rfl,rfl,by simp,fun b hb _=>hold b hb,fun id B o1 h1 _ h2 h3=>?_,fun id o1 o2 h1 h2 h3=>?_⟩
 ·intro id o' ho
  simp only[AH.alloc]at ho
  by_cases e:id=h.next
  ·subst e
   simp only[zV,zQ]at ho
   subst ho
   exact⟨⟨w.heap.size,n,sz,0⟩,by simp[Env.put],hc _ _ hle Od⟩
  ·rw[zW e]at ho
   obtain⟨B,hB,hO⟩:=hr.obj id o' ho
   exact⟨B,hle _ _ hB,hO.mono hle (hold _ hO.lt)⟩
 ·intro i j oi oj Bi Bj h1 h2 h3 h4 h5
  simp only[AH.alloc]at h1 h2
  have se:∀i o' B',i≠h.next->h.obj i=some o'->(E.put h.next ⟨w.heap.size,n,sz,0⟩) i=some B'->E i=some B'/\B'.b<w.heap.size:=by
   intro i o' B' b7 ho hB
   obtain⟨B,fN,hO⟩:=hr.obj i o' ho
   simp only[Env.put,zW b7]at hB
   rw[fN]at hB;cases hB
   exact⟨fN,hO.lt⟩
  by_cases ei:i=h.next<;>by_cases ej:j=h.next
  ·left;rw[ei,ej]
  ·rw[zW ej]at h2
   have:=se j oj Bj ej h2 h4
   subst ei
   simp only[Env.put,zV,zQ]at h3
   subst h3
   simp only at h5
   omega
  ·rw[zW ei]at h1
   have:=se i oi Bi ei h1 h3
   subst ej
   simp only[Env.put,zV,zQ]at h4
   subst h4
   simp only at h5
   omega
  ·rw[zW ei]at h1
   rw[zW ej]at h2
   exact hr.inj i j oi oj Bi Bj h1 h2 (se i oi Bi ei h1 h3).1 (se j oj Bj ej h2 h4).1 h5
 ·intro id hid
  simp only[AH.alloc]at hid
  simp only[Env.put,zW (show id≠h.next by omega)]
  exact hr.fresh _ (by omega)
 ·simp only[AH.alloc,zW (show id≠h.next by omega)]
 ·simp only[AH.alloc,zW (show id≠h.next by omega)];exact h0
 ·by_cases e:id=h.next
  ·subst e
   simp only[Env.put,zV,zQ]at h2
   subst h2
   exact .inl (zU _)
  ·simp only[AH.alloc,zW e]at h1
   have:=h.lt _ _ h1
   omega
 ·have:=h.lt _ _ h1
  simp only[AH.alloc,zW (show id≠h.next by omega)]at h2
  rw[h1]at h2;cases h2;exact h3
theorem CR.get{E:Env}{cells:List AV}{arr:Array Value}(h:CR E cells arr):cells.length<=arr.size:=by
 cases mV:cells.length with
 |zero=>omega
 |succ m=>
  obtain⟨v,hv,_⟩:=h m (cells[m]'(by omega)) (zJ (by omega))
  have:=(Array.getElem?_eq_some_iff.1 hv).1
  omega
theorem Step.alloc{E:Env}{h:AH}{M:Nat->Prop}{w:World}(hr:Rel E h w){o:AO}(hk:o.kind=.row){arr:Array Value}(hc:CR E o.cells arr) :
  Step E h M w (E.put h.next ⟨w.heap.size,arr.size,o.sz,0⟩) (h.alloc o) (w.alloc (.cells arr o.ty)):=
 Step.GC hr _ _ _ fun _ _ hE hw=>OR.A7 hk ⟨arr,(0,0),hw,fun _=>⟨rfl,rfl,rfl⟩,hc.get,rfl,CR.J9 fun i c hi=>let ⟨v,a,b,d⟩:=hc i c hi;⟨v,a,b.mono hE,d⟩⟩
def putCells(cells:List AV)(off:Nat):List AV->List AV
 |[]=>cells
 |v::vs=>putCells (cells.set off v) (off+1) vs
theorem r8(vs:List AV):∀(cells:List AV)(off:Nat),(putCells cells off vs).length=cells.length:=by
 induction vs with
 |nil=>intro cells off;rfl
 |cons v vs ih=>intro cells off;simp[putCells,ih]
def AH.put(h:AH)(id off:Nat)(vs:List AV):AH:=h.eP id fun o=>{ o with cells:=putCells o.cells off vs }
theorem heap_setCell(w:World)(a:Addr)(v:Value){arr:Array Value}{T:TypeId}{fz:Nat×Nat}(h:w.heap[a.block]?=some (.cells arr T fz))(hs:a.spot=none) :
  (w.setCell a v).heap[a.block]?=some (.cells (arr.setIfInBounds a.off v) T fz):=by
 simp[World.setCell,Array.getElem?_modify,h,hs]
theorem Step.TI{E:Env}{h:AH}{M:Nat->Prop}{w:World}(hr:Rel E h w){id off:Nat}{B:oE}{o:AO}{c:AV}{v:Value}
  (ho:h.obj id=some o) (hB:E id=some B) (hk:o.kind=.row) (fc:o.ro=false) (hM:M id) (Vh:off<o.cells.length) (hv:VR E c v) (h1:v.oneCell'=true) :
  Step E h M w E (h.put id off [c]) (w.setCell ⟨B.b,off,none⟩ v)/\(∃u,w.cell? ⟨B.b,off,none⟩=some u)/\w.frozen? ⟨B.b,off,none⟩=false:=by
 obtain⟨B',cO,hO⟩:=hr.obj id o ho
 obtain⟨arr,fz,hb,my,hle,gO,dJ⟩:=hO.row hk
 rw[hB]at cO;cases cO
 obtain⟨my,hn,fN⟩:=my fc
 subst my
 have dJ:=dJ.zero fN
 have Ck:o.cells[off]?=some (o.cells[off]):=zJ Vh
 obtain⟨u,hu,_,_⟩:=dJ _ _ Ck
 have eL:off<arr.size:=(Array.getElem?_eq_some_iff.1 hu).1
 refine⟨⟨fun _ _ h=>h,⟨?_,?_,hr.fresh⟩,zU _,?_,?_,rfl,rfl,rfl,by simp[World.setCell],?_,?_,?_⟩,⟨u,by simp[World.cell?,hb,hu]⟩,?_⟩
 ·intro i o' dy
  simp only[AH.put,AH.eP]at dy
  by_cases e:i=id
  ·subst e
   rw[zX rfl,ho]at dy
   simp only[yB,zQ]at dy
   subst dy
   refine⟨B,hB,OR.A7 hk ⟨_,(0,0),heap_setCell w ⟨B.b,off,none⟩ v hb rfl,fun _=>⟨rfl,by simpa using hn,fN⟩,by simpa[putCells] using hle,gO,?_⟩⟩
   rw[fN]
   refine CR.J9 ?_
   intro k d hk
   simp only[putCells,List.getElem?_set]at hk
   by_cases ek:off=k
   ·subst ek
    rw[zX rfl,zX Vh]at hk
    cases hk
    exact⟨v,by simp[eL],hv,h1⟩
   ·rw[zW ek]at hk
    obtain⟨u',Ls,gN,nj⟩:=dJ k d hk
    exact⟨u',by rw[Array.getElem?_setIfInBounds_ne ek];exact Ls,gN,nj⟩
  ·rw[zW e]at dy
   obtain⟨B',cO,hO⟩:=hr.obj i o' dy
   refine⟨B',cO,hO.mono (fun _ _ h=>h) ?_⟩
   exact RowKit.Below.heap_setCell _ _ _ _ (fun p_=>(hr.inj i id o' o B' B dy ho cO hB p_).elim e (fun hh=>by rw[fc]at hh;cases hh.2))
 ·intro i j oi oj Bi Bj h1 h2
  simp only[AH.put,AH.eP]at h1 h2
  have nR:∀i oi,(if i=id then Option.map (fun o=>({ o with cells:=putCells o.cells off [c] }:AO)) (h.obj i) else h.obj i)=some oi->∃o',h.obj i=some o'/\o'.ro=oi.ro:=by
   intro i oi hi
   split at hi
   ·cases ho:h.obj i with
    |none=>rw[ho]at hi;cases hi
    |some o'=>rw[ho]at hi;simp only[yB,zQ]at hi;subst hi;exact⟨o',rfl,rfl⟩
   ·exact⟨oi,hi,rfl⟩
  obtain⟨a,ha,ra⟩:=nR i oi h1
  obtain⟨b,hb,rb⟩:=nR j oj h2
  rw[<-ra,<-rb]
  exact hr.inj i j a b Bi Bj ha hb
 ·intro i _ hm
  simp only[AH.put,AH.eP]
  rw[zW (fun(e:i=id)=>hm (e ▸ hM))]
 ·intro i _ h0
  simp only[AH.put,AH.eP]
  rw[h0];simp
 ·intro b _ kZ
  exact RowKit.Below.heap_setCell _ _ _ _ (fun p_=>kZ id B o hM ho fc hB p_.symm)
 ·intro i C oi hi _ _ ll
  simp only[AH.put,AH.eP]at hi
  have:h.obj i≠none:=fun h0=>by rw[h0]at hi;simp at hi
  have:=AH.K3 this
  omega
 ·intro i o1 o2 dP eB oQ
  simp only[AH.put,AH.eP]at eB
  split at eB
  ·rw[dP]at eB;simp only[yB,zQ]at eB;subst eB;exact oQ
  ·rw[dP]at eB;cases eB;exact oQ
 ·simp[World.frozen?,hb]
theorem AH.RI(h:AH)(id off:Nat)(c:AV)(cs:List AV):(h.put id off [c]).put id (off+1) cs=h.put id off (c::cs):=by
 unfold AH.put AH.eP
 congr 1
 funext i
 by_cases e:i=id<;>simp[e,putCells,Option.map_map,Function.comp_def]
theorem AH.RJ(h:AH)(id off:Nat):h.put id off []=h:=by
 cases h with
 |mk obj next lt=>
  unfold AH.put AH.eP
  congr 1
  funext i
  by_cases e:i=id
  ·subst e;cases ho:obj i<;>simp[ho,putCells]
  ·simp[e]
theorem AH.bK(h:AH)(id off:Nat)(cs:List AV)(i:Nat):(h.put id off cs).obj i=if i=id then(h.obj i).map (fun o=>{ o with cells:=putCells o.cells off cs }) else h.obj i:=rfl
theorem B3{P:Program}{E:Env}{M:Nat->Prop}{id:Nat}{B:oE}(a:Addr)(hM:M id)(hB:E id=some B)(sE:a.block=B.b)(HM:a.spot=none) :
  ∀(cs:List AV)(vs:List Value)(k:Nat)(h:AH)(w:World)(o:AO),Rel E h w->h.obj id=some o->o.kind=.row->o.ro=false->cu E cs vs->(∀v∈vs,v.oneCell'=true) ->
   a.off+k+cs.length<=o.cells.length ->
   ∃w',(storeCells a vs k).run P w=.ok () w'/\Step E h M w E (h.put id (a.off+k) cs) w':=by
 intro cs
 induction cs with
 |nil=>
  intro vs k h w o hr ho hk fc hv h1 hlen
  cases hv
  exact⟨w,by simp[storeCells],by rw[AH.RJ];exact Step.refl hr⟩
 |cons c cs ih=>
  intro vs k h w o hr ho hk fc hv h1 hlen
  cases hv with
  |cons Ft Dg=>
   rename_i v vs
   simp only[List.length_cons]at hlen
   have nj:=h1 v (by simp)
   have XU:a.add k=⟨B.b,a.off+k,none⟩:=by
    cases a with
    |mk blk off spot=>
     simp only at sE HM
     subst sE HM
     unfold Addr.add
     by_cases hk:k=0<;>simp[hk]
   obtain⟨hs,⟨u,hu⟩,hf⟩:=Step.TI (M:=M) hr ho hB hk fc hM (off:=a.off+k) (by omega) Ft nj
   have dy:(h.put id (a.off+k) [c]).obj id=some { o with cells:=putCells o.cells (a.off+k) [c] }:=by simp[AH.bK,ho]
   obtain⟨w',fR,eA⟩:=ih vs (k+1) (h.put id (a.off+k) [c]) _ _ hs.rel dy hk fc Dg (fun v hv=>h1 v (by simp[hv])) (by simp only[r8];omega)
   refine⟨w',?_,?_⟩
   ·have:(storeCells a (v::vs) k).run P w=(storeCells a vs (k+1)).run P (w.setCell ⟨B.b,a.off+k,none⟩ v):=by
     simp only[storeCells,XU,store,bind,Sem.bind]
     cases v<;>simp_all [Sem.run,Value.oneCell']
    rw[this];exact fR
   ·rw[<-Nat.add_assoc,AH.RI]at eA
    exact hs.trans hr eA (fun pV aJ hm=>.inl hm)
end
section
abbrev AV.i(n:Int):AV:=.sc (.int .i64 n)
abbrev AV.b(t:Bool):AV:=.sc (.bool t)
abbrev AV.s(s:ByteArray):AV:=.sc (.string s)
def lift:Value->AV
 |.agg cs=>.agg (cs.toList.map .sc)
 |v=>.sc v
theorem cu.lift(E:Env):∀l:List Value,cu E (l.map .sc) l
 |[]=>.nil
 |v::l=>.cons (.sc v) (cu.lift E l)
theorem VR.lift(E:Env)(v:Value):VR E (lift v) v:=by
 cases v<;>first |exact .sc _ |skip
 rename_i cs
 exact .agg (vs:=cs.toList) (cu.lift E _)
def b_:AV->Option (List AV)
 |.agg l=>some l
 |.sc (.agg _)=>none
 |a=>some [a]
theorem VR.cells{E:Env}{a:AV}{v:Value}(h:VR E a v){l:List AV}(hl:b_ a=some l):cu E l v.cells.toList:=by
 cases h with
 |agg h=>simp only[b_,zQ]at hl;subst hl;simpa[Value.cells] using h
 |sc v=>cases v<;>simp[b_]at hl<;>subst hl<;>exact .cons (.sc _) .nil
 |ptr h=>simp only[b_,zQ]at hl;subst hl;exact .cons (.ptr h) .nil
 |sl h a b c d=>simp only[b_,zQ]at hl;subst hl;exact .cons (.sl h a b c d) .nil
 |cP h=>simp only[b_,zQ]at hl;subst hl;exact .cons (.cP h) .nil
 |kx h=>simp only[b_,zQ]at hl;subst hl;exact .cons (.kx h) .nil
 |fn h k=>simp only[b_,zQ]at hl;subst hl;exact .cons (.fn h k) .nil
 |mp h=>simp only[b_,zQ]at hl;subst hl;exact .cons (.mp h) .nil
def eM(P:Program)(t:TypeId):Option Nat:=(P.info? t).map (·.size)
def ke(P:Program)(t:TypeId):Option Bool:=(P.underlying t).map fun d=>match d with |.struct _ |.array _ _=>true |_=>false
def OA(P:Program)(s:TypeId)(k:Nat):Option Nat:=
 match P.underlying s with
 |some (.struct fs)=>match fs[k]? with
  |some f=>match eM P f.type with
   |some 0=>none
   |some _=>some f.offset
   |none=>none
  |none=>none
 |_=>none
def Jb(P:Program)(t:TypeId):Option (Nat×Option Nat):=
 match P.underlying t with
 |some (.slice e)=>(eM P e).map fun s=>(s,none)
 |some (.array n e)=>(eM P e).map fun s=>(s,some n)
 |_=>none
def Jw(P:Program)(s:TypeId)(k:Nat):Option (Nat×Nat×Bool):=
 match P.underlying s with
 |some (.struct fs)=>match fs[k]? with
  |some f=>match eM P f.type,ke P f.type with
   |some n,some g=>some (f.offset,n,g)
   |_,_=>none
  |none=>none
 |_=>none
def gS(P:Program)(t:TypeId):Bool:=match P.underlying t with |some .string=>true |_=>false
def nE(P:Program)(t:TypeId):Bool:=match P.underlying t with |some .bool=>true |_=>false
def tD(P:Program)(t:TypeId):Option IntKind:=match P.underlying t with |some (.int k)=>some k |_=>none
def IG(P:Program)(t:TypeId):Option Nat:=match P.underlying t with |some (.slice e)=>eM P e |_=>none
def zeroOf(P:Program)(t:TypeId):Option (List Value):=(P.info? t).bind fun i=>i.zero.map (·.cells.toList)
def Eg(P:Program)(t:TypeId):Option (List Value×(List (Nat×Nat) ⊕ Nat)):=
 match zeroOf P t,P.underlying t with
 |some z,some (.struct fs)=>(fs.toList.mapM fun f=>(eM P f.type).map fun n=>(f.offset,n)).map fun l=>(z,.inl l)
 |some z,some (.array _ e)=>(eM P e).map fun n=>(z,.inr n)
 |_,_=>none
def JH(P:Program)(t:TypeId):Option (Nat×Nat×TypeId):=
 match P.underlying t with
 |some (.slice e)=>match P.info? e with
  |some i=>match i.zero with
   |some z=>if z.cells.size=i.size/\0<i.size then some (i.size,i.bytes,e) else none
   |none=>none
  |none=>none
 |_=>none
def Qe(P:Program)(t:TypeId):Bool:=match P.underlying t with |some (.int .u8)=>true |_=>false
def JF(P:Program)(s d:TypeId):Bool:=match P.underlying s,P.underlying d with
 |some (.slice e),some .string=>Qe P e
 |_,_=>false
def Gz(P:Program)(t u:TypeId):Option TypeId:=
 match P.underlying t,P.underlying u with
 |some (.slice e),some .string=>match P.info? e with
  |some i=>match i.zero with
   |some (.int .u8 0)=>if i.size=1/\i.bytes=1 then some e else none
   |_=>none
  |none=>none
 |_,_=>none
def hZ(P:Program)(t:TypeId):Option Bool:=(P.underlying t).map fun d=>match d with |.interface _=>true |_=>false
def j3(P:Program)(t:TypeId):Bool:=match P.underlying t with |some (.slice _)=>true |_=>false
def rz(P:Program)(t:TypeId):Bool:=match P.underlying t with |some (.pointer _)=>true |_=>false
theorem hF{P:Program}{t:TypeId}{n:Nat}(h:eM P t=some n)(w:World):(sizeOf t).run P w=.ok n w:=by
 unfold eM at h
 cases hi:P.info? t with
 |none=>rw[hi]at h;cases h
 |some i=>rw[hi]at h;simp only[yB,zQ]at h;subst h;simp[sizeOf,typeInfo,hi]
theorem bj{P:Program}{t:TypeId}{d:TypeDesc}(h:P.underlying t=some d)(w:World):(underlying t).run P w=.ok d w:=run_underlying h w
theorem qc{P:Program}{t:TypeId}{g:Bool}(h:ke P t=some g)(w:World):(isAgg t).run P w=.ok g w:=by
 unfold ke at h
 cases hd:P.underlying t with
 |none=>rw[hd]at h;cases h
 |some d=>
  rw[hd]at h;simp only[yB,zQ]at h;subst h
  simp only[isAgg,Sem.run_bind,bj hd,Result.andThen_ok]
  cases d<;>rfl
def aT(c a b:AV)(K:AV->Prop):Prop:=
 match c with
 |.sc (.bool t)=>K (if t then a else b)
 |_=>False
def aY(x:AV)(K:AV->Prop):Prop:=
 match x with
 |.ptr i o=>K (.ptr i o)
 |.fn (.func f) a b=>K (.fn (.func f) a b)
 |.kx t v=>K (.kx t v)
 |_=>False
def ah(d:Option Nat)(x:AV)(K:AV->Prop):Prop:=
 match d,x with
 |some d,.ptr i o=>K (.ptr i (o+d))
 |_,_=>False
def cj(s:Option (Nat×Option Nat))(x i:AV)(K:AV->Prop):Prop:=
 match s,x,i with
 |some (sz,none),.sl id off len,.sc (.int _ n)=>(0<=n/\n<(len:Int))/\K (.ptr id (off+n.toNat*sz))
 |some (sz,some len),.ptr id off,.sc (.int _ n)=>(0<=n/\n<(len:Int))/\K (.ptr id (off+n.toNat*sz))
 |_,_,_=>False
def rm(str:Bool)(x i:AV)(K:AV->Prop):Prop:=
 match str,x,i with
 |true,.sc (.string s),.sc (.int _ n)=>∃c:UInt8,(0<=n/\s[n.toNat]?=some c)/\K (.sc (.int .u8 c.toNat))
 |_,_,_=>False
def lL(d:Option (Nat×Nat×Bool))(x:AV)(K:AV->Prop):Prop:=
 match d,x with
 |some (o,n,true),.agg l=>K (.agg ((l.drop o).take n))
 |some (o,_,false),.agg l=>∃c,l[o]?=some c/\K c
 |_,_=>False
def cf(x:AV)(k:Nat)(K:AV->Prop):Prop:=
 match x with
 |.cP l=>∃c,l[k]?=some c/\K c
 |_=>False
def gM(op:UnOp)(x:AV)(K:AV->Prop):Prop:=
 match op,x with
 |.not,.sc (.bool t)=>K (.sc (.bool !t))
 |.neg,.sc (.int k n)=>K (.sc (.int k (k.wrap (0-n))))
 |_,_=>False
def sK(x:Option AV)(acv:Nat):Option Int:=
 match x with
 |none=>some acv
 |some (.sc (.int _ n))=>some n
 |_=>none
def wj(x:AV)(lo hi:Option AV)(K:AV->Prop):Prop:=
 match x with
 |.sc (.string s)=>∃l h:Int,sK lo 0=some l/\sK hi s.size=some h/\(0<=l/\l<=h/\h<=(s.size:Int))/\K (.sc (.string (s.extract l.toNat h.toNat)))
 |_=>False
def sU(sz:Option Nat)(x:AV)(lo hi:Option AV)(h:AH)(K:AV->Prop):Prop:=
 match sz,x with
 |some sz,.sl id off len=>∃l u:Int,sK lo 0=some l/\sK hi len=some u /\
   (0<=l/\l<=u/\((l=0/\u<=(len:Int))\/∃o,h.obj id=some o/\o.kind=.row/\o.sz=sz/\0<sz/\(u<=(len:Int)\/off+u.toNat*sz<=o.cells.length))) /\
   K (.sl id (off+l.toNat*sz) (u.toNat-l.toNat))
 |some _,.sc (.slice none 0 0)=>sK lo 0=some 0/\sK hi 0=some 0/\K (.sc (.slice none 0 0))
 |_,_=>False
def bO(x:AV)(K:AV->Prop):Prop:=
 match x with
 |.sl _ _ len=>K (.i len)
 |.sc (.slice _ n _)=>K (.i n)
 |.sc (.string s)=>K (.i s.size)
 |_=>False
def rl(d:Option Bool)(t:TypeId)(x:AV)(K:AV->Prop):Prop:=
 match d with
 |some false=>K (.kx t x)
 |_=>False
def lr(P:Program):Nat->List Field->Option (List Bool)
 |_,[]=>some []
 | o, f :: fs => if f.name ≠ "_" ∧ f.offset = o then
   (match P.underlying f.type with
   |some .string=>(lr P (o+1) fs).map (true::·)
   |some (.int _)=>(lr P (o+1) fs).map (false::·)
   |_=>none) else none
def k_(P:Program)(t:TypeId):Option (List Bool):=
 if P.eqGuardType P.depth t=false/\P.stoodInHeld t=false then
  (match P.underlying t with
  |some (.struct fs)=>lr P 0 fs.toList
  |_=>none) else none
def gf:List Bool->List AV->List AV->Option Bool
 |[],_,_=>some true
 |true::ks,.sc (.string a)::xs,.sc (.string b)::ys=>(gf ks xs ys).map (decide (a=b)&&·)
 |false::ks,.sc (.int k a)::xs,.sc (.int k' b)::ys=>if k=k' then(gf ks xs ys).map ((a==b)&&·) else none
 |_,_,_=>none
def tQ(P:Program)(t:TypeId)(xs ys:List AV):Option Bool:=(k_ P t).bind fun ks=>gf ks xs ys
def ag(P:Program)(op:BinOp)(t:TypeId)(mY:Bool)(x y:AV)(K:AV->Prop):Prop:=
 match op,x,y with
 |.add,.sc (.int k a),.sc (.int k' b)=>k=k'/\K (.sc (.int k (k.wrap (a+b))))
 |.sub,.sc (.int k a),.sc (.int k' b)=>k=k'/\K (.sc (.int k (k.wrap (a-b))))
 |.mul,.sc (.int k a),.sc (.int k' b)=>k=k'/\K (.sc (.int k (k.wrap (a*b))))
 |.quo,.sc (.int k a),.sc (.int k' b)=>k=k'/\b≠0/\K (.sc (.int k (k.wrap (a.tdiv b))))
 |.rem,.sc (.int k a),.sc (.int k' b)=>k=k'/\b≠0/\K (.sc (.int k (a.tmod b)))
 |.and,.sc (.int k a),.sc (.int k' b)=>k=k'/\K (.sc (.int k (k.wrap (BitVec.ofInt k.bits a &&& BitVec.ofInt k.bits b).toNat)))
 |.or,.sc (.int k a),.sc (.int k' b)=>k=k'/\K (.sc (.int k (k.wrap (BitVec.ofInt k.bits a |||BitVec.ofInt k.bits b).toNat)))
 |.xor,.sc (.int k a),.sc (.int k' b)=>k=k'/\K (.sc (.int k (k.wrap (BitVec.ofInt k.bits a ^^^ BitVec.ofInt k.bits b).toNat)))
 |.andNot,.sc (.int k a),.sc (.int k' b)=>k=k'/\K (.sc (.int k (k.wrap (BitVec.ofInt k.bits a &&& ~~~ BitVec.ofInt k.bits b).toNat)))
 |.shl,.sc (.int k a),.sc (.int _ b)=>0<=b/\K (.sc (.int k (k.wrap (a*2^(min b.toNat k.bits)))))
 |.shr,.sc (.int k a),.sc (.int _ b)=>0<=b/\K (.sc (.int k (a.fdiv (2^(min b.toNat k.bits)))))
 |.eql,.sc (.int k a),.sc (.int k' b)=>k=k'/\K (.b (a==b))
 |.neq,.sc (.int k a),.sc (.int k' b)=>k=k'/\K (.b (a != b))
 |.lss,.sc (.int k a),.sc (.int k' b)=>k=k'/\K (.b (decide (a<b)))
 |.leq,.sc (.int k a),.sc (.int k' b)=>k=k'/\K (.b (decide (a<=b)))
 |.gtr,.sc (.int k a),.sc (.int k' b)=>k=k'/\K (.b (decide (a > b)))
 |.geq,.sc (.int k a),.sc (.int k' b)=>k=k'/\K (.b (decide (a>=b)))
 |.eql,.sc (.string a),.sc (.string b)=>K (.b (decide (a=b)))
 |.neq,.sc (.string a),.sc (.string b)=>K (.b (!decide (a=b)))
 |.add,.sc (.string a),.sc (.string b)=>a.size+b.size<9223372036854775808/\K (.s (a++b))
 |.eql,.sc (.bool a),.sc (.bool b)=>nE P t=true/\K (.b (a==b))
 |.neq,.sc (.bool a),.sc (.bool b)=>nE P t=true/\K (.b (!(a==b)))
 |.eql,.sc (.slice none _ _),.sc (.slice none _ _)=>j3 P t=true/\K (.b true)
 |.neq,.sc (.slice none _ _),.sc (.slice none _ _)=>j3 P t=true/\K (.b false)
 |.eql,.sl _ _ _,.sc (.slice none _ _)=>j3 P t=true/\K (.b false)
 |.neq,.sl _ _ _,.sc (.slice none _ _)=>j3 P t=true/\K (.b true)
 |.eql,.ptr _ _,.sc (.pointer none)=>rz P t=true/\K (.b false)
 |.neq,.ptr _ _,.sc (.pointer none)=>rz P t=true/\K (.b true)
 |.eql,.sc (.pointer none),.sc (.pointer none)=>rz P t=true/\K (.b true)
 |.neq,.sc (.pointer none),.sc (.pointer none)=>rz P t=true/\K (.b false)
 |.eql,.kx _ _,.sc .nilIface=>hZ P t=some true/\K (.b false)
 |.neq,.kx _ _,.sc .nilIface=>hZ P t=some true/\K (.b true)
 |.eql,.sc .nilIface,.sc .nilIface=>mY=true/\hZ P t=some true/\K (.b true)
 |.neq,.sc .nilIface,.sc .nilIface=>mY=true/\hZ P t=some true/\K (.b false)
 |.eql,.agg xs,.agg ys=>(tQ P t xs ys).isSome=true/\K (.b ((tQ P t xs ys).getD false))
 |.neq,.agg xs,.agg ys=>(tQ P t xs ys).isSome=true/\K (.b (!(tQ P t xs ys).getD false))
 |_,_,_=>False
def vi(mn:Bool)(x y:AV)(K:AV->Prop):Prop:=
 match x,y with
 |.sc (.int k a),.sc (.int k' b)=>k=k'/\K (.sc (.int k (if mn then(if b<a then b else a) else(if a<b then b else a))))
 |_,_=>False
def qi(k:Option IntKind)(x:AV)(K:AV->Prop):Prop:=
 match k,x with
 |some k,.sc (.int _ n)=>K (.sc (.int k (k.wrap n)))
 |_,_=>False
def CT(d:Option Bool)(T:TypeId)(ok:Bool)(x:AV)(K:AV->Prop):Prop:=
 match d,x with
 |some false,.kx t v=>t=T/\K (if ok then .cP [v,.b true] else v)
 |_,_=>False
end
section
variable {P:Program} {E:Env} {h:AH} {w0:World} {K:AV->Prop}
def PS(P:Program)(E:Env)(s:Sem Value)(K:AV->Prop):Prop:=∃av u,VR E av u/\K av/\∀w,s.run P w=.ok u w
theorem Nu{c a b:AV}{cv av bv:Value}(hc:VR E c cv)(ha:VR E a av)(hb:VR E b bv)(hp:aT c a b K) :
  PS P E (do pure (if <-asBool cv then av else bv)) K:=by
 unfold aT at hp
 split at hp
 ·rename_i t
  cases hc
  refine⟨_,if t then av else bv,?_,hp,fun w=>by simp[asBool]⟩
  cases t
  ·simpa using hb
  ·simpa using ha
 ·exact hp.elim
theorem RZ{s k:Nat}{x:AV}{v:Value}(hx:VR E x v)(hp:ah (OA P s k) x K):PS P E (Instr.fieldAt s v k) K:=by
 unfold ah at hp
 split at hp
 ·rename_i d id off hd
  unfold OA at hd
  split at hd<;>try cases hd
  rename_i fs hu
  split at hd<;>try cases hd
  rename_i f hf
  split at hd<;>try cases hd
  rename_i n hn hz
  cases hx with
  |ptr hB=>
   rename_i B
   refine⟨_,_,.ptr (off:=off+f.offset) hB,hp,fun w=>?_⟩
   have Fq:¬n=0:=fun e=>hn (by rw[e])
   simp only[Instr.fieldAt,Sem.run_bind,bj hu,Result.andThen_ok,hf,Instr.sureAddr,fieldPlace,hF hz,Fq,Sem.run_pure,if_false]
   unfold Addr.add
   by_cases h0:f.offset=0<;>simp[h0,Nat.add_assoc]
 ·exact hp.elim
theorem RX{t:Nat}{x i:AV}{v iv:Value}(hx:VR E x v)(hi:VR E i iv)(hp:cj (Jb P t) x i K):PS P E (Instr.indexAt t v iv) K:=by
 unfold cj at hp
 split at hp
 ·rename_i sz id off len k n he
  obtain⟨⟨h0,h1⟩,hp⟩:=hp
  unfold Jb at he
  split at he
  ·rename_i e hu
   cases hz:eM P e with
   |none=>rw[hz]at he;cases he
   |some s=>
    rw[hz]at he;simp only[yB,zQ,Prod.mk.injEq,zI]at he;subst he
    cases hi
    cases hx with
    |sl hB ho hc hl hm=>
     rename_i o cap B
     refine⟨_,_,.ptr (off:=off+n.toNat*s) hB,hp,fun w=>?_⟩
     have ho:o=B.o+off:=by omega
     subst ho
     simp only[Instr.indexAt,asIntOf,Sem.run_bind,Sem.run_pure,bj hu,Result.andThen_ok,h0,h1,and_self,zV,hF hz]
     unfold Addr.add
     by_cases h0:n.toNat*s=0<;>simp[h0,Nat.add_assoc]
  ·cases hz:eM P _<;>rw[hz]at he<;>simp at he
  ·cases he
 ·rename_i sz len id off k n he
  obtain⟨⟨h0,h1⟩,hp⟩:=hp
  unfold Jb at he
  split at he
  ·cases hz:eM P _<;>rw[hz]at he<;>simp at he
  ·rename_i m e hu
   cases hz:eM P e with
   |none=>rw[hz]at he;cases he
   |some s=>
    rw[hz]at he;simp only[yB,zQ,Prod.mk.injEq]at he;obtain⟨rfl,he⟩:=he;cases he
    cases hi
    cases hx with
    |ptr hB=>
     rename_i B
     refine⟨_,_,.ptr (off:=off+n.toNat*s) hB,hp,fun w=>?_⟩
     simp only[Instr.indexAt,asIntOf,Sem.run_bind,Sem.run_pure,bj hu,Result.andThen_ok,h0,h1,and_self,zV,hF hz,Instr.sureAddr]
     unfold Addr.add
     by_cases h0:n.toNat*s=0<;>simp[h0,Nat.add_assoc]
  ·cases he
 ·exact hp.elim
theorem RW{t:Nat}{x i:AV}{v iv:Value}(hx:VR E x v)(hi:VR E i iv)(hp:rm (gS P t) x i K):PS P E (Instr.index t v iv) K:=by
 unfold rm at hp
 split at hp
 ·rename_i s k n he
  obtain⟨c,⟨h0,h1⟩,hp⟩:=hp
  unfold gS at he
  split at he
  ·rename_i hu
   cases hi;cases hx
   refine⟨_,_,.sc _,hp,fun w=>?_⟩
   simp[Instr.index,asIntOf,bj hu,h0,h1]
  ·cases he
 ·exact hp.elim
theorem cu.drop_take{l:List AV}{vs:List Value}(h:cu E l vs)(o n:Nat):cu E ((l.drop o).take n) ((vs.drop o).take n):=by
 refine cu.wv _ _ (by simp[h.length]) fun i a v h1 h2=>?_
 rw[List.getElem?_take]at h1 h2
 split at h1
 ·rename_i hi
  simp only[hi,zV,List.getElem?_drop]at h1 h2
  obtain⟨u,hu,hv⟩:=h.get h1
  rw[hu]at h2;cases h2;exact hv
 ·cases h1
theorem R0{s k:Nat}{x:AV}{v:Value}(hx:VR E x v)(hp:lL (Jw P s k) x K):PS P E (Instr.field s v k) K:=by
 have key:∀o n g,Jw P s k=some (o,n,g)->∃fs f,P.underlying s=some (.struct fs)/\fs[k]?=some f/\f.offset=o/\eM P f.type=some n/\ke P f.type=some g:=by
  intro o n g he
  unfold Jw at he
  split at he<;>try cases he
  rename_i fs hu
  split at he<;>try cases he
  rename_i f hf
  split at he<;>try cases he
  rename_i n' g' h1 h2
  exact⟨fs,f,hu,hf,rfl,h1,h2⟩
 unfold lL at hp
 split at hp
 ·rename_i o n l he
  obtain⟨fs,f,hu,hf,rfl,h1,h2⟩:=key _ _ _ he
  cases hx with
  |agg hl=>
   rename_i vs
   refine⟨_,.agg ((vs.drop f.offset).take n).toArray,.agg (hl.drop_take _ _),hp,fun w=>?_⟩
   simp only[Instr.field,Sem.run_bind,bj hu,Result.andThen_ok,hf,asAgg,Sem.run_pure,part,qc h2,hF h1,zV]
   congr 2
   apply Array.ext'
   simp[List.extract_eq_take_drop]
 ·rename_i o n l he
  obtain⟨fs,f,hu,hf,rfl,h1,h2⟩:=key _ _ _ he
  obtain⟨c,hc,hp⟩:=hp
  cases hx with
  |agg hl=>
   rename_i vs
   obtain⟨u,Ls,hv⟩:=hl.get hc
   refine⟨_,u,hv,hp,fun w=>?_⟩
   simp only[Instr.field,Sem.run_bind,bj hu,Result.andThen_ok,hf,asAgg,Sem.run_pure,part,qc h2,zE,if_false,List.getElem?_toArray,Ls]
 ·exact hp.elim
theorem R1{x:AV}{v:Value}{k:Nat}(hx:VR E x v)(hp:cf x k K):PS P E (Instr.extract v k) K:=by
 unfold cf at hp
 split at hp
 ·obtain⟨c,hc,hp⟩:=hp
  cases hx with
  |cP hl=>
   obtain⟨u,hu,hv⟩:=hl.get hc
   exact⟨_,u,hv,hp,fun w=>by simp[Instr.extract,hu]⟩
 ·exact hp.elim
theorem T6{op:UnOp}{x:AV}{v:Value}(hx:VR E x v)(hp:gM op x K):PS P E (Op.unary op v) K:=by
 unfold gM at hp
 split at hp
 ·cases hx;exact⟨_,_,.sc _,hp,fun w=>by simp[Op.unary]⟩
 ·cases hx;exact⟨_,_,.sc _,hp,fun w=>by simp[Op.unary,Op.intArith]⟩
 ·exact hp.elim
theorem RV{t ty:TypeId}{x:AV}{v:Value}(hx:VR E x v)(ht:(gS P t||j3 P t)=true)(hs:gS P t=true↔∃s,x=.sc (.string s))(hp:bO x K) :
  PS P E (Builtin.len_ #[t] ty #[v]) K:=by
 have HN:(¬ ∃s,x=.sc (.string s))->∃e,P.underlying t=some (.slice e):=by
  intro hn
  have:gS P t=false:=by cases h:gS P t;rfl;exact absurd (hs.1 h) hn
  rw[this,Bool.false_or]at ht
  unfold j3 at ht
  split at ht
  ·exact⟨_,by assumption⟩
  ·cases ht
 unfold bO at hp
 split at hp
 ·obtain⟨e,he⟩:=HN (by rintro⟨s,h⟩;cases h)
  cases hx
  exact⟨_,_,.sc _,hp,fun w=>by simp[Builtin.len_,bj he,goInt]⟩
 ·obtain⟨e,he⟩:=HN (by rintro⟨s,h⟩;cases h)
  cases hx
  exact⟨_,_,.sc _,hp,fun w=>by simp[Builtin.len_,bj he,goInt]⟩
 ·have:=hs.2 ⟨_,rfl⟩
  unfold gS at this
  split at this
  ·rename_i he
   cases hx
   exact⟨_,_,.sc _,hp,fun w=>by simp[Builtin.len_,bj he,goInt]⟩
  ·cases this
 ·exact hp.elim
theorem RU{t:TypeId}{x:AV}{v:Value}(hx:VR E x v)(hp:rl (hZ P t) t x K):PS P E (Instr.makeInterface t v) K:=by
 unfold rl at hp
 split at hp
 ·rename_i he
  unfold hZ at he
  cases hd:P.underlying t with
  |none=>rw[hd]at he;cases he
  |some d=>
   rw[hd]at he
   refine⟨_,_,.kx hx,hp,fun w=>?_⟩
   simp only[Instr.makeInterface,Sem.run_bind,bj hd,Result.andThen_ok]
   cases d<;>simp at he ⊢
 ·exact hp.elim
theorem R3{s d:TypeId}{x:AV}{v:Value}(hx:VR E x v)(hs:(P.underlying s).isSome=true)(hp:qi (tD P d) x K):PS P E (convert s d v) K:=by
 unfold qi at hp
 split at hp
 ·rename_i k k' n he
  unfold tD at he
  split at he
  ·rename_i k2 hd
   cases he
   cases hx
   obtain⟨ds,oO⟩:=Option.isSome_iff_exists.1 hs
   refine⟨_,_,.sc _,hp,fun w=>?_⟩
   simp only[convert,Sem.run_bind,bj oO,bj hd,Result.andThen_ok]
   simp[Conv.intToInt]
  ·cases he
 ·exact hp.elim
theorem T_{mn:Bool}{ts:Array TypeId}{ty:TypeId}{x y:AV}{v u:Value}(hx:VR E x v)(hy:VR E y u)(hp:vi mn x y K):PS P E (if mn then Builtin.min_ ts ty #[v,u] else Builtin.max_ ts ty #[v,u]) K:=by
 unfold vi at hp
 split at hp
 ·obtain⟨rfl,hp⟩:=hp
  cases hx;cases hy
  refine⟨_,_,.sc _,hp,fun w=>?_⟩
  cases mn
  ·simp[Builtin.max_,Builtin.max2]
  ·simp[Builtin.min_,Builtin.min2]
 ·exact hp.elim
theorem T7{xt T:TypeId}{ok:Bool}{x:AV}{v:Value}(hx:VR E x v)(hp:CT (hZ P T) T ok x K):PS P E (Instr.typeAssert v xt T ok) K:=by
 unfold CT at hp
 split at hp
 ·rename_i t a he
  obtain⟨rfl,hp⟩:=hp
  unfold hZ at he
  cases hd:P.underlying t with
  |none=>rw[hd]at he;cases he
  |some d=>
   rw[hd]at he
   cases hx with
   |kx hv=>
    rename_i u
    refine⟨_,(if ok then .tuple #[u,.bool true] else u),?_,hp,fun w=>?_⟩
    ·cases ok
     ·simpa using hv
     ·simp only[zV];exact .cP (vs:=[u,.bool true]) (.cons hv (.cons (.sc _) .nil))
    ·simp only[Instr.typeAssert,Sem.run_bind,bj hd,Result.andThen_ok]
     cases d<;>simp at he ⊢
 ·exact hp.elim
theorem AL(a b:ByteArray):(a.toList==b.toList)=decide (a=b):=by
 rw[ByteArray.toList_eq,ByteArray.toList_eq]
 have:a=b↔a.data.toList=b.data.toList:=by
  constructor
  ·intro h;rw[h]
  ·intro h
   cases a;cases b
   simp only at h
   congr 1
   exact Array.ext' h
 by_cases h:a=b
 ·simp[h]
 ·have h':¬a.data.toList=b.data.toList:=fun e=>h (this.2 e)
  rw[zK h]
  exact beq_eq_false_iff_ne.2 h'
section
variable {t:TypeId} (w:World) (d:Nat)
theorem Mc(h:P.underlying t=some .bool)(a b:Bool):(Op.equalIn (d+1) t (.bool a) (.bool b)).run P w=.ok (a==b) w:=by simp[Op.equalIn,bj h]
theorem OD{e:TypeId}(h:P.underlying t=some (.slice e))(x y:Nat)(b:Option Addr)(z u:Nat):(Op.equalIn (d+1) t (.slice none x y) (.slice b z u)).run P w=.ok b.isNone w:=by simp[Op.equalIn,bj h]
theorem OC{e:TypeId}(h:P.underlying t=some (.slice e))(a:Addr)(x y z u:Nat):(Op.equalIn (d+1) t (.slice (some a) x y) (.slice none z u)).run P w=.ok false w:=by simp[Op.equalIn,bj h]
theorem Sz{e:TypeId}(h:P.underlying t=some (.pointer e))(b:Option Addr):(Op.equalIn (d+1) t (.pointer none) (.pointer b)).run P w=.ok b.isNone w:=by simp[Op.equalIn,bj h]
theorem Sy{e:TypeId}(h:P.underlying t=some (.pointer e))(a:Addr):(Op.equalIn (d+1) t (.pointer (some a)) (.pointer none)).run P w=.ok false w:=by simp[Op.equalIn,bj h]
theorem Wc{e:Array (String×TypeId)}(h:P.underlying t=some (.interface e))(T:TypeId)(v:Value):(Op.equalIn (d+1) t (.iface T v) .nilIface).run P w=.ok false w:=by simp[Op.equalIn,bj h]
theorem Sx(h:P.underlying t=some .bool)(a b:Bool):(Op.equal t (.bool a) (.bool b)).run P w=.ok (a==b) w:=Mc w 9999 h a b
theorem V_{e:TypeId}(h:P.underlying t=some (.slice e))(x y:Nat)(b:Option Addr)(z u:Nat):(Op.equal t (.slice none x y) (.slice b z u)).run P w=.ok b.isNone w:=OD w 9999 h x y b z u
theorem V9{e:TypeId}(h:P.underlying t=some (.slice e))(a:Addr)(x y z u:Nat):(Op.equal t (.slice (some a) x y) (.slice none z u)).run P w=.ok false w:=OC w 9999 h a x y z u
theorem X1{e:TypeId}(h:P.underlying t=some (.pointer e))(b:Option Addr):(Op.equal t (.pointer none) (.pointer b)).run P w=.ok b.isNone w:=Sz w 9999 h b
theorem X0{e:TypeId}(h:P.underlying t=some (.pointer e))(a:Addr):(Op.equal t (.pointer (some a)) (.pointer none)).run P w=.ok false w:=Sy w 9999 h a
theorem acs{e:Array (String×TypeId)}(h:P.underlying t=some (.interface e))(T:TypeId)(v:Value):(Op.equal t (.iface T v) .nilIface).run P w=.ok false w:=Wc w 9999 h T v
end
theorem Wb{t:TypeId}(w:World)(d:Nat){e:Array (String×TypeId)}(h:P.underlying t=some (.interface e)):(Op.equalIn (d+1) t .nilIface .nilIface).run P w=.ok true w:=by simp[Op.equalIn,bj h]
theorem Wa{t:TypeId}(w:World){e:Array (String×TypeId)}(h:P.underlying t=some (.interface e)):(Op.equal t .nilIface .nilIface).run P w=.ok true w:=Wb w 9999 h
theorem Sa{t:TypeId}(w:World){e:Array (String×TypeId)}(h:P.underlying t=some (.interface e)){xo yo:Operand}(hc:(xo matches .const _)=true\/(yo matches .const _)=true)(op:BinOp)(ho:op=.eql\/op=.neq) :
  (do eqGuard op t xo yo .nilIface .nilIface;binOp op t .nilIface .nilIface).run P w=.ok (.bool (op==.eql)) w:=by
 cases xo<;>cases yo<;>first
  |(simp at hc;done)
  |(rcases ho with rfl |rfl<;>(simp[eqGuard,binOp,Wa w h];done))
  |(rcases ho with rfl |rfl<;>(simp[eqGuard,binOp,Wa w h];rfl))
theorem Rq (w : World) (t : TypeId) (xy : Operand × Operand) (a b : ByteArray) (h : a.size + b.size < 9223372036854775808) :
    (do eqGuard .add t xy.1 xy.2 (.string a) (.string b); binOp .add t (.string a) (.string b)).run P w = .ok (.string (a ++ b)) w := by
  simp only [eqGuard, binOp, Op.stringOp, Sem.run_bind]
  rw [if_pos (by decide)]
  simp only [Sem.run_pure, Result.andThen_ok]
  rw [if_neg (by have : IntKind.i64.max = 9223372036854775807 := by decide
                 omega)]
  rfl
theorem sP(w:World):∀(fs:List Field)(o:Nat)(ks:List Bool)(xs ys:List AV)(vs us:List Value)(A B:Array Value)(b:Bool),lr P o fs=some ks->gf ks xs ys=some b->cu E xs vs->cu E ys us ->
  (∀i,A[o+i]?=vs[i]?)->(∀i,B[o+i]?=us[i]?)->(Op.eqFields 9999 A B fs).run P w=.ok b w
 |[],o,ks,xs,ys,vs,us,A,B,b,hf,he,_,_,_,_=>by
  simp only[lr,zQ]at hf
  subst hf
  simp only[gf,zQ]at he
  subst he
  simp[Op.eqFields]
 |f::fs,o,ks,xs,ys,vs,us,A,B,b,hf,he,hx,hy,hA,hB=>by
  simp only[lr]at hf
  split at hf
  ·rename_i hn
   obtain⟨hn,ho⟩:=hn
   have LR:∀i,A[o+1+i]?=vs.tail[i]?:=fun i=>by rw[show o+1+i=o+(i+1) by omega,hA];cases vs<;>simp
   have cO:∀i,B[o+1+i]?=us.tail[i]?:=fun i=>by rw[show o+1+i=o+(i+1) by omega,hB];cases us<;>simp
   have a0:=hA 0
   have b0:=hB 0
   rw[Nat.add_zero]at a0 b0
   have uk:∀(C:Array Value)(v:Value)(g:TypeDesc),P.underlying f.type=some g->(match g with |.struct _=>false |.array _ _=>false |_=>true)=true->C[o]?=some v->(part f.type C f.offset).run P w=.ok v w:=by
    intro C v g hg hs hc
    rw[ho]
    simp only[part,isAgg,Sem.run_bind,bj hg,Result.andThen_ok]
    cases g<;>simp[hc]at hs ⊢
   split at hf
   ·rename_i hu
    cases lm:lr P (o+1) fs with
    |none=>rw[lm]at hf;cases hf
    |some wF=>
     rw[lm]at hf
     simp only[yB,zQ]at hf
     subst hf
     unfold gf at he
     split at he
     ·rename_i h;cases h
     ·rename_i h
      cases h
      rename_i xa JZ xb JY
      cases hx with |cons h1 sA=>cases hy with |cons h2 sy=>
      cases h1;cases h2
      cases hq:gf wF JZ JY with
      |none=>rw[hq]at he;cases he
      |some q=>
       rw[hq]at he
       simp only[yB,zQ]at he
       have ih:=sP w fs (o+1) wF JZ JY _ _ A B q lm hq sA sy LR cO
       simp only[zA]at a0 b0
       simp only[Op.eqFields,hn,ne_eq,not_false_eq_true,zV,Sem.run_bind,uk A _ _ hu rfl a0,uk B _ _ hu rfl b0,Result.andThen_ok,run_equalIn_string w 9998 f.type _ _ hu,AL]
       rw[<-he]
       by_cases sE:xa=xb
       ·simp[sE,ih]
       ·simp[sE]
     ·rename_i h;cases h
     ·cases he
   ·rename_i kk hu
    cases lm:lr P (o+1) fs with
    |none=>rw[lm]at hf;cases hf
    |some wF=>
     rw[lm]at hf
     simp only[yB,zQ]at hf
     subst hf
     unfold gf at he
     split at he
     ·rename_i h;cases h
     ·rename_i h;cases h
     ·rename_i h
      cases h
      rename_i k1 xa JZ k2 xb JY
      split at he
      ·rename_i hk
       subst hk
       cases hx with |cons h1 sA=>cases hy with |cons h2 sy=>
       cases h1;cases h2
       cases hq:gf wF JZ JY with
       |none=>rw[hq]at he;cases he
       |some q=>
        rw[hq]at he
        simp only[yB,zQ]at he
        have ih:=sP w fs (o+1) wF JZ JY _ _ A B q lm hq sA sy LR cO
        simp only[zA]at a0 b0
        simp only[Op.eqFields,hn,ne_eq,not_false_eq_true,zV,Sem.run_bind,uk A _ _ hu rfl a0,uk B _ _ hu rfl b0,Result.andThen_ok,run_equalIn_int w 9998 f.type k1 kk _ _ hu]
        rw[<-he]
        by_cases sE:xa=xb
        ·simp[sE,ih]
        ·simp[sE]
      ·cases he
     ·cases he
   ·cases hf
  ·cases hf
theorem JI{t:TypeId}{xs ys:List AV}{vs us:List Value}{b:Bool}(w:World)(hx:cu E xs vs)(hy:cu E ys us)(h:tQ P t xs ys=some b)(op:BinOp)(ho:op=.eql\/op=.neq)(xo yo:Operand) :
  (do eqGuard op t xo yo (.agg vs.toArray) (.agg us.toArray);binOp op t (.agg vs.toArray) (.agg us.toArray)).run P w=.ok (.bool (if op=.eql then b else !b)) w:=by
 unfold tQ k_ at h
 split at h
 ·rename_i hg
  cases hu:P.underlying t with
  |none=>rw[hu]at h;cases h
  |some g=>
   rw[hu]at h
   cases g<;>simp only[Option.bind_none,reduceCtorEq]at h
   rename_i fs
   cases hf:lr P 0 fs.toList with
   |none=>rw[hf]at h;cases h
   |some ks=>
    rw[hf]at h
    simp only[Option.bind_some]at h
    have LC:P.fieldsOf t=fs:=by unfold Program.fieldsOf;rw[hu]
    have key:(Op.equalIn 10000 t (.agg vs.toArray) (.agg us.toArray)).run P w=.ok b w:=by
     rw[run_equalIn_struct w 9999 t _ _ (by rw[LC];exact hu) hg.2,LC]
     exact sP w _ 0 ks xs ys vs us _ _ b hf h hx hy (fun i=>by simp) (fun i=>by simp)
    rw[Sem.run_bind,run_eqGuard_agg w op t xo yo _ _ hg.1,Result.andThen_ok]
    rcases ho with rfl |rfl
    ·rw[run_eql_struct,key];rfl
    ·rw[run_neq_struct,key];rfl
 ·cases h
theorem R5{op:BinOp}{t:TypeId}{xo yo:Operand}{x y:AV}{v u:Value}(hx:VR E x v)(hy:VR E y u){mY:Bool}(abR:mY=true->(xo matches .const _)=true\/(yo matches .const _)=true)(hp:ag P op t mY x y K) :
  PS P E (do eqGuard op t xo yo v u;binOp op t v u) K:=by
 have X6:nE P t=true->P.underlying t=some .bool:=by unfold nE;split<;>simp_all
 have Kb:j3 P t=true->∃e,P.underlying t=some (.slice e):=by unfold j3;split<;>simp_all
 have T0:rz P t=true->∃e,P.underlying t=some (.pointer e):=by unfold rz;split<;>simp_all
 have UQ:hZ P t=some true->∃e,P.underlying t=some (.interface e):=by
  unfold hZ
  cases hd:P.underlying t with
  |none=>simp
  |some d=>cases d<;>simp
 unfold ag at hp
 split at hp<;>try exact hp.elim
 all_goals first
  |(obtain⟨h1,hp⟩:=hp;obtain⟨b,hb⟩:=Option.isSome_iff_exists.1 h1;rw[hb]at hp;cases hx;cases hy;exact⟨_,_,.sc _,hp,fun w=>JI w (by assumption) (by assumption) hb _ (by simp) xo yo⟩)
  |(cases hx;cases hy;obtain⟨rfl,h2,hp⟩:=hp;refine⟨_,_,.sc _,hp,fun w=>?_⟩;simp[eqGuard,binOp,Op.intDiv,h2];done)
  |(cases hx;cases hy;obtain⟨rfl,hp⟩:=hp;refine⟨_,_,.sc _,hp,fun w=>?_⟩;simp[eqGuard,binOp,Op.intArith,Op.intBits,Op.intCmp];done)
  |(cases hx;cases hy;obtain⟨h1,hp⟩:=hp;have dP:=Int.not_lt.2 h1;refine⟨_,_,.sc _,hp,fun w=>?_⟩;simp[eqGuard,binOp,Op.shift,dP];done)
  |(cases hx;cases hy;obtain⟨h1,hp⟩:=hp;refine⟨_,_,.sc _,hp,fun w=>?_⟩;exact Rq w _ (xo,yo) _ _ h1)
  |(cases hx;cases hy;refine⟨_,_,.sc _,hp,fun w=>?_⟩;simp[eqGuard,binOp,Op.stringOp,AL];done)
  |(cases hx;cases hy;obtain⟨h1,hp⟩:=hp;have dP:=X6 h1;refine⟨_,_,.sc _,hp,fun w=>?_⟩;simp[eqGuard,binOp,Sx w dP];done)
  |(cases hx;cases hy;obtain⟨h1,hp⟩:=hp;obtain⟨e,dP⟩:=Kb h1;refine⟨_,_,.sc _,hp,fun w=>?_⟩;simp[eqGuard,binOp,V_ w dP];done)
  |(cases hx;cases hy;obtain⟨h1,hp⟩:=hp;obtain⟨e,dP⟩:=Kb h1;refine⟨_,_,.sc _,hp,fun w=>?_⟩;simp[eqGuard,binOp,V9 w dP];done)
  |(cases hx;cases hy;obtain⟨h1,hp⟩:=hp;obtain⟨e,dP⟩:=T0 h1;refine⟨_,_,.sc _,hp,fun w=>?_⟩;simp[eqGuard,binOp,X1 w dP];done)
  |(cases hx;cases hy;obtain⟨h1,hp⟩:=hp;obtain⟨e,dP⟩:=T0 h1;refine⟨_,_,.sc _,hp,fun w=>?_⟩;simp[eqGuard,binOp,X0 w dP];done)
  |(cases hx;cases hy;obtain⟨h0,h1,hp⟩:=hp;obtain⟨e,dP⟩:=UQ h1;refine⟨_,_,.sc _,hp,fun w=>?_⟩;exact Sa w dP (abR h0) _ (by simp))
  |(cases hx;cases hy;obtain⟨h1,hp⟩:=hp;obtain⟨e,dP⟩:=UQ h1;refine⟨_,_,.sc _,hp,fun w=>?_⟩;simp[eqGuard,binOp,acs w dP];done)
end
section
variable {P:Program} {E:Env}
def GL(E:Env):Option AV->Option Value->Prop
 |some a,some u=>VR E a u
 |none,none=>True
 |_,_=>False
theorem Aq{a:AV}{v:Value}{d y:Nat}{n:Int}{code:BoundsCode}(w:World)(hx:VR E a v)(hb:sK (some a) d=some n)(h0:0<=n)(h1:n<=(y:Int)) :
  (Instr.sliceBound v y code).run P w=.ok n.toNat w:=by
 unfold sK at hb
 split at hb
 ·rename_i h;cases h
 ·rename_i h
  cases h
  cases hb
  cases hx
  simp[Instr.sliceBound,asIntOf,h0,h1]
 ·cases hb
inductive F2 (R:Nat×AV->Nat×Value->Prop):List (Nat×AV)->List (Nat×Value)->Prop
 |nil:F2 R [] []
 |cons {a:Nat×AV} {b:Nat×Value} {l:List (Nat×AV)} {m:List (Nat×Value)}:R a b->F2 R l m->F2 R (a::l) (b::m)
theorem uM{lo hi:Option AV}{lv hv:Option Value}(hl:GL E lo lv)(hh:GL E hi hv){len cap:Nat}{l u:Int}(UJ:Bool)
  (bl:sK lo 0=some l) (bh:sK hi len=some u) (h0:0<=l) (h1:l<=u) (h2:u<=(cap:Int)) (w:World) :
  (Instr.sliceBounds UJ len cap lv hv none).run P w=.ok (l.toNat,u.toNat,cap) w:=by
 unfold Instr.sliceBounds
 cases lo with
 |none=>
  cases lv with
  |some _=>exact hl.elim
  |none=>
   simp only[sK,zQ]at bl
   subst bl
   cases hi with
   |none=>
    cases hv with
    |some _=>exact hh.elim
    |none=>simp only[sK,zQ]at bh;subst bh;simp
   |some b=>
    cases hv with
    |none=>exact hh.elim
    |some u'=>
     have:=Aq (P:=P) (y:=cap) (code:=if UJ then .sliceAcap else .sliceAlen) w hh bh (by omega) h2
     simp[this]
 |some a=>
  cases lv with
  |none=>exact hl.elim
  |some l'=>
   have yI:=Aq (P:=P) (y:=u.toNat) (code:=.sliceB) w hl bl h0 (by omega)
   cases hi with
   |none=>
    cases hv with
    |some _=>exact hh.elim
    |none=>simp only[sK,zQ]at bh;subst bh;simp at yI ⊢;simp[yI]
   |some b=>
    cases hv with
    |none=>exact hh.elim
    |some u'=>
     have:=Aq (P:=P) (y:=cap) (code:=if UJ then .sliceAcap else .sliceAlen) w hh bh (by omega) h2
     simp[this,yI]
theorem RP{K:AV->Prop}{t:TypeId}{x:AV}{v:Value}{lo hi:Option AV}{lv hv:Option Value}(hx:VR E x v)(hl:GL E lo lv)(hh:GL E hi hv)
  (ht:gS P t=true) (hp:wj x lo hi K):PS P E (Instr.sliceAt t v lv hv none) K:=by
 unfold gS at ht
 split at ht
 ·rename_i hu
  unfold wj at hp
  split at hp
  ·obtain⟨l,u,bl,bh,⟨h0,h1,h2⟩,hp⟩:=hp
   cases hx
   refine⟨_,_,.sc _,hp,fun w=>?_⟩
   simp[Instr.sliceAt,bj hu,Instr.slice,uM hl hh false bl bh h0 h1 h2 w]
  ·exact hp.elim
 ·cases ht
theorem RQ{K:AV->Prop}{h:AH}{w0:World}{t:TypeId}{x:AV}{v:Value}{lo hi:Option AV}{lv hv:Option Value}(hr:Rel E h w0)(hx:VR E x v)(hl:GL E lo lv)(hh:GL E hi hv)
  (hp:sU (IG P t) x lo hi h K):PS P E (Instr.sliceAt t v lv hv none) K:=by
 have key:∀sz,IG P t=some sz->∃e,P.underlying t=some (.slice e)/\eM P e=some sz:=by
  intro sz he
  unfold IG at he
  split at he
  ·exact⟨_,by assumption,he⟩
  ·cases he
 unfold sU at hp
 split at hp
 ·rename_i sz id off len he
  obtain⟨e,hu,hz⟩:=key _ he
  obtain⟨l,u,bl,bh,⟨h0,h1,h2⟩,hp⟩:=hp
  cases hx with
  |sl hB ho hc hlen hm=>
   rename_i o cap B
   have XA:u<=(cap:Int):=by
    rcases h2 with⟨_,h2⟩ |⟨ob,kK,hk,gO,wM,h2⟩
    ·omega
    ·rcases h2 with h2 |h2
     ·omega
     ·obtain⟨B',cO,hO⟩:=hr.obj id ob kK
      rw[hB]at cO;cases cO
      obtain⟨arr,fz,_,_,hn,vv,dJ⟩:=hO.row hk
      have hs:sz=B.sz:=by rw[vv,gO]
      rw[hs]at h2
      have h3:off+u.toNat*sz<=off+cap*sz:=by rw[hs];omega
      have h4:u.toNat*sz<=cap*sz:=by omega
      have:=Nat.le_of_mul_le_mul_right h4 wM
      omega
   have gO:l.toNat=0\/B.sz=sz:=by
    rcases h2 with⟨h2,_⟩ |⟨ob,kK,hk,gO,_⟩
    ·left;omega
    ·obtain⟨B',cO,hO⟩:=hr.obj id ob kK
     rw[hB]at cO;cases cO
     obtain⟨arr,fz,_,_,hn,vv,dJ⟩:=hO.row hk
     right;rw[vv,gO]
   have hlc:l.toNat<=cap:=by omega
   refine⟨_,.slice (some ⟨B.b,if cap=l.toNat then o else o+l.toNat*sz,none⟩) (u.toNat-l.toNat) (cap-l.toNat),?_,hp,fun w=>?_⟩
   ·refine .sl hB ?_ ?_ (by omega) (by omega)
    ·by_cases mV:cap=l.toNat
     ·rw[zX mV]
      rcases ho with ho |ho
      ·subst ho
       rcases Nat.eq_zero_or_pos (l.toNat*sz) with h5 |h5
       ·left;omega
       ·right;omega
      ·right;omega
     ·rw[zW mV]
      rcases ho with ho |ho
      ·left;rw[ho,Nat.add_assoc]
      ·right;omega
    ·rcases gO with gO |gO
     ·rw[gO];simpa using hc
     ·rw[<-hc,gO,Nat.sub_mul]
      have:l.toNat*sz<=cap*sz:=Nat.mul_le_mul_right _ hlc
      omega
   ·simp only[Instr.sliceAt,Sem.run_bind,bj hu,Result.andThen_ok,Instr.slice,uM hl hh true bl bh h0 h1 XA w,hF hz,Sem.run_pure]
    congr 2
    by_cases mV:cap=l.toNat
    ·simp[mV]
    ·simp only[mV,if_false,yB]
     unfold Addr.add
     by_cases h0:l.toNat*sz=0<;>simp[h0]
 ·rename_i sz he
  obtain⟨e,hu,hz⟩:=key _ he
  obtain⟨bl,bh,hp⟩:=hp
  cases hx
  refine⟨_,_,.sc _,hp,fun w=>?_⟩
  simp[Instr.sliceAt,bj hu,Instr.slice,uM (P:=P) hl hh true bl bh (Int.le_refl _) (Int.le_refl _) (Int.le_refl _) w,hF hz]
 ·exact hp.elim
def dU(place:Nat->Option (Nat×Nat))(cells:List AV):List (Nat×AV)->Option (List AV)
 |[]=>some cells
 |(i,x)::rest=>
  match place i,b_ x with
  |some (off,size),some cs=>if cs.length=size/\off+cs.length<=cells.length then dU place (putCells cells off cs) rest else none
  |_,_=>none
theorem cu.set{l:List AV}{vs:List Value}(h:cu E l vs)(i:Nat){a:AV}{v:Value}(hv:VR E a v):cu E (l.set i a) (vs.set i v):=by
 refine cu.wv _ _ (by simp[h.length]) fun j b u h1 h2=>?_
 rw[List.getElem?_set]at h1 h2
 by_cases e:i=j
 ·rw[zX e]at h1 h2
  split at h1
  ·split at h2
   ·cases h1;cases h2;exact hv
   ·cases h2
  ·cases h1
 ·rw[zW e]at h1 h2
  obtain⟨u',hu,gN⟩:=h.get h1
  rw[hu]at h2;cases h2;exact gN
theorem CP{off:Nat}:∀(cs:List AV)(vs:List Value)(k:Nat)(cells:List AV)(arr:Array Value),cu E cs vs->cu E cells arr.toList ->
  cu E (putCells cells (off+k) cs) ((vs.zipIdx k).foldl (fun(cs:Array Value) (x:Value×Nat)=>cs.setIfInBounds (off+x.2) x.1) arr).toList
 |[],_,_,_,_,.nil,h=>by simpa[putCells] using h
 |c::cs,_,k,cells,arr,.cons (v:=v) (vs:=vs) h1 h2,h=>by
  have:=CP (off:=off) cs vs (k+1) (cells.set (off+k) c) (arr.setIfInBounds (off+k) v) h2 (by rw[Array.toList_setIfInBounds];exact h.set _ h1)
  simpa[putCells,List.zipIdx_cons,Nat.add_assoc] using this
theorem xV{place:Nat->Option (Nat×Nat)}:∀(parts:List (Nat×AV))(pv:List (Nat×Value))(cells m_:List AV)(arr:Array Value),
  F2 (fun a b=>a.1=b.1/\VR E a.2 b.2) parts pv->cu E cells arr.toList->dU place cells parts=some m_ ->
  ∃pA,Instr.fill place arr pv=some pA/\cu E m_ pA.toList
 |[],_,cells,m_,arr,.nil,h,hf=>by simp only[dU,zQ]at hf;subst hf;exact⟨arr,rfl,h⟩
 |(i,x)::parts,_,cells,m_,arr,.cons (b:=b) (m:=pv) h1 h2,h,hf=>by
  obtain⟨j,v⟩:=b
  obtain⟨e,hv⟩:=h1
  simp only at e hv
  subst e
  simp only[dU]at hf
  split at hf
  ·rename_i off size cs hp hc
   split at hf
   ·rename_i Ee
    have wT:=hv.cells hc
    have hlen:v.cells.size=cs.length:=by have:=wT.length;simpa using this.symm
    have HT:cells.length=arr.size:=by have:=h.length;simpa using this
    have Jf:=CP (E:=E) (off:=off) cs v.cells.toList 0 cells arr wT h
    obtain⟨pA,jy,gN⟩:=xV parts pv _ m_ _ h2 Jf hf
    refine⟨pA,?_,gN⟩
    simp only[Instr.fill,hp]
    rw[zW (by simp;omega)]
    rw[<-jy]
    congr 1
    rw[<-Array.foldl_toList,Array.toList_zipIdx]
   ·cases hf
  ·cases hf
end
section
variable {P:Program} {E:Env}
def al(g:Option Bool)(n:Option Nat)(x:AV)(h:AH)(K:AV->Nat->Prop):Prop:=
 match g,n,x with
 |some false,_,.ptr id off=>∃o c,(h.obj id=some o/\o.kind=.row/\o.cells[off]?=some c)/\K c id
 |some true,some n,.ptr id off=>∃o,(h.obj id=some o/\o.kind=.row/\off+n<=o.cells.length)/\K (.agg ((o.cells.drop off).take n)) id
 |_,_,_=>False
def LS(P:Program)(E:Env)(w:World)(s:Sem Value)(K:AV->Nat->Prop):Prop:=
 ∃av u id B,VR E av u/\K av id/\E id=some B/\∀w',w'.heap[B.b]?=w.heap[B.b]?->s.run P w'=.ok u w'
theorem mF{w:World}{B:oE}{arr:Array Value}{T:TypeId}{fz:Nat×Nat}(hb:w.heap[B.b]?=some (.cells arr T fz))(off:Nat) :
  ∀(n k:Nat)(acc:Array Value),off+k+n<=arr.size->(loadCellsFrom ⟨B.b,off,none⟩ k n acc).run P w=.ok (acc++arr.extract (off+k) (off+k+n)) w
 |0,k,acc,_=>by simp[loadCellsFrom];omega
 |n+1,k,acc,h=>by
  have ha:(⟨B.b,off,none⟩:Addr).add k=⟨B.b,off+k,none⟩:=by unfold Addr.add;by_cases hk:k=0<;>simp[hk]
  have hc:w.cell? ⟨B.b,off+k,none⟩=some (arr[off+k]'(by omega)):=by simp[World.cell?,hb]
  have ih:=mF hb off n (k+1) (acc.push (arr[off+k]'(by omega))) (by omega)
  simp only[loadCellsFrom,Sem.run_bind,ha,load,Sem.run,hc,Result.andThen_ok]
  rw[ih]
  congr 1
  apply Array.ext'
  simp only[Array.toList_append,Array.toList_push,Array.toList_extract,List.append_assoc]
  congr 1
  rw[List.extract_eq_take_drop,List.extract_eq_take_drop]
  have h1:off+(k+1)+n-(off+(k+1))=n:=by omega
  have h2:off+k+(n+1)-(off+k)=n+1:=by omega
  rw[h1,h2]
  have h3:List.drop (off+k) arr.toList=arr[off+k]'(by omega)::List.drop (off+(k+1)) arr.toList:=by
   rw[List.drop_eq_getElem_cons (by simp;omega)]
   simp[Nat.add_assoc]
  rw[h3];simp
theorem BV.get{k:Nat}{cells:List AV}{arr:Array Value}(h:BV E k cells arr):k+cells.length<=arr.size\/cells.length=0:=by
 cases mV:cells.length with
 |zero=>exact .inr rfl
 |succ m=>
  obtain⟨v,hv,_⟩:=h m (cells[m]'(by omega)) (zJ (by omega))
  have:=(Array.getElem?_eq_some_iff.1 hv).1
  left;omega
theorem BV.Hj{k:Nat}{cells:List AV}{arr:Array Value}(h:BV E k cells arr){off n:Nat}(hl:off+n<=cells.length):cu E ((cells.drop off).take n) (arr.extract (k+off) (k+off+n)).toList:=by
 have hs:=h.get
 refine cu.wv _ _ (by simp;omega) fun i a v h1 h2=>?_
 rw[List.getElem?_take]at h1
 split at h1
 ·rename_i hi
  rw[List.getElem?_drop]at h1
  obtain⟨u,hu,hv,_⟩:=h _ _ h1
  have:(arr.extract (k+off) (k+off+n)).toList[i]?=arr[k+(off+i)]?:=by
   rw[Array.getElem?_toList,Array.getElem?_extract]
   rw[zX (by omega),Nat.add_assoc]
  rw[this,hu]at h2;cases h2;exact hv
 ·cases h1
theorem CR.Hj{cells:List AV}{arr:Array Value}(h:CR E cells arr){off n:Nat}(hl:off+n<=cells.length):cu E ((cells.drop off).take n) (arr.extract off (off+n)).toList:=by
 have hs:=h.get
 refine cu.wv _ _ (by simp;omega) fun i a v h1 h2=>?_
 rw[List.getElem?_take]at h1
 split at h1
 ·rename_i hi
  rw[List.getElem?_drop]at h1
  obtain⟨u,hu,hv,_⟩:=h _ _ h1
  have:(arr.extract off (off+n)).toList[i]?=arr[off+i]?:=by
   rw[Array.getElem?_toList,Array.getElem?_extract]
   rw[zX (by omega)]
  rw[this,hu]at h2;cases h2;exact hv
 ·cases h1
theorem Ld{t:TypeId}{h:AH}{w:World}{K:AV->Nat->Prop}{x:AV}{v:Value}(hr:Rel E h w)(hx:VR E x v)(hp:al (ke P t) (eM P t) x h K) :
  LS P E w (Instr.loadAt t v) K:=by
 unfold al at hp
 split at hp
 ·rename_i id off hg
  obtain⟨o,c,⟨ho,hk,hc⟩,hp⟩:=hp
  cases hx with
  |ptr hB=>
   rename_i B
   obtain⟨B',cO,hO⟩:=hr.obj id o ho
   rw[hB]at cO;cases cO
   obtain⟨arr,fz,hb,_,hn,_,dJ⟩:=hO.row hk
   obtain⟨u,hu,hv,_⟩:=dJ _ _ hc
   refine⟨c,u,id,B,hv,hp,hB,fun w' iW=>?_⟩
   have uD:w'.cell? ⟨B.b,B.o+off,none⟩=some u:=by simp[World.cell?,iW,hb,hu]
   simp[Instr.loadAt,Instr.sureAddr,loadVar,qc hg,uD]
 ·rename_i n id off hg hz
  obtain⟨o,⟨ho,hk,hl⟩,hp⟩:=hp
  cases hx with
  |ptr hB=>
   rename_i B
   obtain⟨B',cO,hO⟩:=hr.obj id o ho
   rw[hB]at cO;cases cO
   obtain⟨arr,fz,hb,_,hn,_,dJ⟩:=hO.row hk
   have hs:=dJ.get
   refine⟨_,.agg (arr.extract (B.o+off) (B.o+off+n)),id,B,.agg (vs:=(arr.extract (B.o+off) (B.o+off+n)).toList) (dJ.Hj hl),hp,hB,fun w' iW=>?_⟩
   by_cases yH:n=0
   ·subst yH
    simp only[Instr.loadAt,Instr.sureAddr,loadVar,Sem.run_bind,Sem.run_pure,Result.andThen_ok,qc hg,zV,hF hz,loadCells,loadCellsFrom]
    simp only[Nat.add_zero]
    congr 2
    exact(Array.extract_empty_of_stop_le_start (zU _)).symm
   have:=mF (P:=P) (w:=w') (by rw[iW];exact hb) (B.o+off) n 0 #[] (by omega)
   simp only[Instr.loadAt,Instr.sureAddr,loadVar,Sem.run_bind,Sem.run_pure,Result.andThen_ok,qc hg,zV,hF hz,loadCells,this,Nat.add_zero,Array.empty_append]
 ·exact hp.elim
def jl(l:List UInt8):List AV:=l.map fun b=>.sc (.int .u8 b.toNat)
def zu(x:AV)(h:AH)(K:AV->Nat->Prop):Prop:=
 match x with
 |.sl id off len=>∃o,∃l:List UInt8,(h.obj id=some o/\o.kind=.row/\off+len<=o.cells.length/\(o.cells.drop off).take len=jl l)/\K (.sc (.string ⟨l.toArray⟩)) id
 |_=>False
theorem foldl_push(l:List UInt8):∀acc:ByteArray,(l.map fun b=>((b.toNat:Nat):Int)).foldl (fun r n=>r.push (UInt8.ofNat n.toNat)) acc=⟨acc.data++l.toArray⟩:=by
 induction l with
 |nil=>intro acc;simp
 |cons b l ih=>
  intro acc
  simp only[List.map_cons,List.foldl_cons]
  rw[ih]
  congr 1
  apply Array.ext'
  simp[ByteArray.push]
theorem cu.jl{l:List UInt8}{vs:List Value}(h:cu E (jl l) vs):vs=(l.map fun b=>((b.toNat:Nat):Int)).map (Value.int .u8):=by
 induction l generalizing vs with
 |nil=>cases h;rfl
 |cons b l ih=>
  cases h with
  |cons h1 h2=>cases h1;rw[ih h2];rfl
theorem R6{s d:TypeId}{h:AH}{w:World}{K:AV->Nat->Prop}{x:AV}{v:Value}(hr:Rel E h w)(hx:VR E x v)(ht:JF P s d=true)(hp:zu x h K) :
  LS P E w (convert s d v) K:=by
 unfold JF at ht
 split at ht
 ·rename_i e hs hd
  unfold Qe at ht
  split at ht
  ·rename_i he
   unfold zu at hp
   split at hp
   ·rename_i id off len
    obtain⟨o,l,⟨ho,hk,hle,hl⟩,hp⟩:=hp
    cases hx with
    |sl hB Dj hc hlen hm=>
     rename_i o' cap B
     obtain⟨B',cO,hO⟩:=hr.obj id o ho
     rw[hB]at cO;cases cO
     obtain⟨arr,fz,hb,_,hn,_,dJ⟩:=hO.row hk
     have Lu:=dJ.get
     refine⟨_,.string ⟨l.toArray⟩,id,B,.sc _,hp,hB,fun w' iW=>?_⟩
     have Lz:l.length=len:=by
      have:=congrArg List.length hl
      simp[jl]at this
      omega
     have XI:(loadCells ⟨B.b,o',none⟩ len).run P w'=.ok ((l.map fun b=>((b.toNat:Nat):Int)).map (Value.int .u8)).toArray w':=by
      by_cases h0:len=0
      ·subst h0
       have:l=[]:=List.length_eq_zero_iff.1 Lz
       subst this
       simp[loadCells,loadCellsFrom]
      ·have dy:o'=B.o+off:=by omega
       subst dy
       have:=mF (P:=P) (w:=w') (by rw[iW];exact hb) (B.o+off) len 0 #[] (by omega)
       have gN:=(dJ.Hj hle)
       rw[hl]at gN
       have wH:=gN.jl
       simp only[loadCells,this,Nat.add_zero,Array.empty_append]
       congr 1
       apply Array.ext'
       rw[wH]
     have:=run_bytesToString (P:=P) w' ⟨B.b,o',none⟩ len cap _ XI
     simp only[convert,Sem.run_bind,bj hs,bj hd,bj he,Result.andThen_ok,this]
     rw[foldl_push]
     congr 2
     simp
   ·exact hp.elim
  ·cases ht
 ·cases ht
def cF:AV->Bool
 |.sc v=>v.oneCell'
 |.agg _ |.cP _=>false
 |_=>true
theorem VR.one{a:AV}{v:Value}(h:VR E a v)(ho:cF a=true):v.oneCell'=true:=by
 cases h<;>first |exact ho |(simp[cF]at ho;done) |rfl
def ES(P:Program)(E:Env)(h:AH)(W:Nat->Prop)(w:World)(s:Sem Value)(K:AV->AH->Prop):Prop:=
 ∃av u E' h' w',Step E h W w E' h' w'/\VR E' av u/\K av h'/\s.run P w=.ok u w'
def bn(z:Option (List Value))(sz:Nat)(t:TypeId)(h:AH)(K:AV->AH->Prop):Prop:=
 match z with
 |some z=>(z.all (·.oneCell')=true)/\K (.ptr h.next 0) (h.alloc { cells:=z.map .sc,sz:=sz,ty:=t })
 |none=>False
def dS(sz:Nat)(t:TypeId)(x:AV)(h:AH)(K:AV->AH->Prop):Prop:=
 ∃cs,b_ x=some cs/\cs.all cF=true/\K (.ptr h.next 0) (h.alloc { cells:=cs,sz:=sz,ty:=t })
def aE(n:Option Nat)(a x:AV)(h:AH)(W:Nat->Prop)(K:AH->Prop):Prop:=
 match n,a with
 |some n,.ptr id off=>∃o cs,(W id/\h.obj id=some o/\o.kind=.row/\o.ro=false/\b_ x=some cs/\cs.all cF=true/\cs.length=n/\off+n<=o.cells.length)/\K (h.put id off cs)
 |_,_=>False
theorem cu.cr{cs:List AV}{vs:List Value}(h:cu E cs vs)(h1:∀v∈vs,v.oneCell'=true):CR E cs vs.toArray:=by
 intro i c hi
 obtain⟨v,hv,hr⟩:=h.get hi
 exact⟨v,by simpa using hv,hr,h1 v (zP hv)⟩
theorem cu.one{cs:List AV}{vs:List Value}(h:cu E cs vs)(h1:cs.all cF=true):∀v∈vs,v.oneCell'=true:=by
 intro v hv
 obtain⟨i,hi,rfl⟩:=List.mem_iff_getElem.1 hv
 have hl:=h.length
 have hc:cs[i]?=some (cs[i]'(by omega)):=zJ (by omega)
 obtain⟨u,hu,hr⟩:=h.get hc
 have:vs[i]=u:=by rw[zJ hi]at hu;simpa using hu
 rw[this]
 exact hr.one ((List.all_eq_true.1 h1) _ (List.getElem_mem _))
theorem qC{t:TypeId}{z:List Value}(hz:zeroOf P t=some z):∃v:Value,v.cells.toList=z/\∀w,(zeroValue t).run P w=.ok v w:=by
 unfold zeroOf at hz
 cases hi:P.info? t with
 |none=>rw[hi]at hz;cases hz
 |some i=>
  rw[hi]at hz
  cases hv:i.zero with
  |none=>simp[hv]at hz
  |some v=>
   simp only[Option.bind_some,hv,yB,zQ]at hz
   exact⟨v,hz,fun w=>by simp[zeroValue,typeInfo,hi,hv]⟩
theorem Mf{t:TypeId}{sz:Nat}{h:AH}{W:Nat->Prop}{w:World}{K:AV->AH->Prop}(hr:Rel E h w)(hp:bn (zeroOf P t) sz t h K) :
  ES P E h W w (Instr.alloc t true (.tuple #[])) K:=by
 unfold bn at hp
 split at hp
 ·rename_i z hz
  obtain⟨h1,hp⟩:=hp
  obtain⟨v,hv,fR⟩:=qC hz
  have dJ:CR E (z.map .sc) v.cells:=by
   have:=(cu.lift E z).cr (fun v hv=>(List.all_eq_true.1 h1) v hv)
   rw[<-hv]at this ⊢
   simpa using this
  refine⟨_,.pointer (some ⟨w.heap.size,0,none⟩),_,_,_,Step.alloc (o:={ cells:=z.map .sc,sz:=sz,ty:=t }) hr rfl dJ,?_,hp,?_⟩
  ·exact .ptr (B:=⟨w.heap.size,v.cells.size,sz,0⟩) (by simp[Env.put])
  ·simp[Instr.alloc,fR,newVar,newRow]
 ·exact hp.elim
theorem SB{t:TypeId}{sz:Nat}{h:AH}{W:Nat->Prop}{w:World}{K:AV->AH->Prop}{x:AV}{v:Value}(hr:Rel E h w)(hx:VR E x v)(hp:dS sz t x h K) :
  ES P E h W w (Instr.box t v) K:=by
 obtain⟨cs,hc,h1,hp⟩:=hp
 have wH:=hx.cells hc
 have dJ:CR E cs v.cells:=by simpa using wH.cr (wH.one h1)
 refine⟨_,.pointer (some ⟨w.heap.size,0,none⟩),_,_,_,Step.alloc (o:={ cells:=cs,sz:=sz,ty:=t }) hr rfl dJ,?_,hp,?_⟩
 ·exact .ptr (B:=⟨w.heap.size,v.cells.size,sz,0⟩) (by simp[Env.put])
 ·simp[Instr.box,newVar,newRow]
theorem Md{t:TypeId}{h:AH}{W:Nat->Prop}{w:World}{K:AH->Prop}{a x:AV}{av v:Value}(hr:Rel E h w)(ha:VR E a av)(hx:VR E x v)
  (hp:aE (eM P t) a x h W K):∃E' h' w',Step E h W w E' h' w'/\K h'/\(Instr.storeAt t av v).run P w=.ok () w':=by
 unfold aE at hp
 split at hp
 ·rename_i n id off hz
  obtain⟨o,cs,⟨hW,ho,hk,fc,hc,h1,hn,hl⟩,hp⟩:=hp
  cases ha with
  |ptr hB=>
   rename_i B
   have wH:=hx.cells hc
   have fN:B.o=0:=by
    obtain⟨B',cO,hO⟩:=hr.obj id o ho
    rw[hB]at cO;cases cO
    obtain⟨arr,fz,_,my,_⟩:=hO.row hk
    exact(my fc).2.2
   rw[fN,zG]
   obtain⟨w',fR,eA⟩:=B3 (P:=P) (a:=⟨B.b,off,none⟩) hW hB rfl rfl cs v.cells.toList 0 h w o hr ho hk fc wH (wH.one h1) (by simp;omega)
   refine⟨E,_,w',eA,hp,?_⟩
   have gO:v.cells.size=n:=by have:=wH.length;simp at this;omega
   simp only[Instr.storeAt,Instr.sureAddr,storeVar,Sem.run_bind,Sem.run_pure,Result.andThen_ok,hF hz,gO,ne_eq,not_true,if_false,fR]
 ·exact hp.elim
end
section
variable {P:Program} {E:Env}
def AH.py(h:AH):Option Nat->AH
 |none=>h
 |some id=>h.del id
theorem AH.OO(h:AH)(d:Option Nat)(i:Nat):(h.py d).obj i=if d=some i then none else h.obj i:=by
 cases d with
 |none=>simp[AH.py]
 |some id=>
  simp only[AH.py,AH.del,zQ]
  by_cases e:i=id
  ·simp[e]
  ·rw[zW e,zW (fun h=>e h.symm)]
theorem AH.xc(h:AH)(d:Option Nat):(h.py d).next=h.next:=by cases d<;>rfl
theorem Step.grow{h:AH}{W:Nat->Prop}{w w':World}(hr:Rel E h w)(d:Option Nat){row:Option Nat}
  (hd:∀id,d=some id->W id/\h.obj id≠none/\(∃B,E id=some B/\row=some B.b)/\∀o,h.obj id=some o->o.ro=false) (hn:d=none->row=none)
  {g:Nat} (hg:row=some g\/w.heap.size<=g) (lj:w.grownBy w' row) {cur:Array Value} {T:TypeId} (Aj:w'.heap[g]?=some (.cells cur T (0,0)))
  {cells:List AV} (sz:Nat) (hc:CR E cells cur) :
  Step E h W w (E.put h.next ⟨g,cur.size,sz,0⟩) ((h.py d).alloc { cells:=cells,sz:=sz,ty:=T }) w':=by
 have hle:E.le (E.put h.next ⟨g,cur.size,sz,0⟩):=Env.La (hr.fresh _ (zU _))
 have gC:∀i,((h.py d).alloc { cells:=cells,sz:=sz,ty:=T }).obj i=if i=h.next then some { cells:=cells,sz:=sz,ty:=T } else if d=some i then none else h.obj i:=by
  intro i
  show(if i=(h.py d).next then _ else(h.py d).obj i)=_
  rw[AH.xc,AH.OO]
 have Lw:∀i o B,h.obj i=some o->E i=some B->d≠some i->some B.b≠row:=by
  intro i o B ho hB b7
  cases wR:d with
  |none=>rw[hn wR];simp
  |some id=>
   obtain⟨_,kK,⟨B',cO,kR⟩,fc⟩:=hd id wR
   rw[kR]
   intro e
   cases dy:h.obj id with
   |none=>exact kK dy
   |some o'=>
    rcases hr.inj i id o o' B B' ho dy hB cO (by simpa using e) with this |this
    ·rw[this]at b7
     exact b7 wR
    ·have h3:=fc o' dy
     rw[this.2]at h3;cases h3
 have aJ:∀i o B,h.obj i=some o->E i=some B->B.b<w.heap.size:=by
  intro i o B ho hB
  obtain⟨B',cO,hO⟩:=hr.obj i o ho
  rw[hB]at cO;cases cO
  exact hO.lt
 refine⟨hle,⟨?_,?_,?_⟩,?_,?_,?_,lj.os,lj.tape,lj.output,lj.size,?_,?_,?_⟩
 ·intro i o ho
  rw[gC]at ho
  by_cases e:i=h.next
  ·rw[zX e]at ho
   cases ho
   subst e
   exact⟨⟨g,cur.size,sz,0⟩,by simp[Env.put],OR.A7 rfl ⟨cur,(0,0),Aj,fun _=>⟨rfl,rfl,rfl⟩,hc.get,rfl,CR.J9 fun i c hi=>let ⟨v,a,b,d⟩:=hc i c hi;⟨v,a,b.mono hle,d⟩⟩⟩
  ·rw[zW e]at ho
   split at ho
   ·cases ho
   ·rename_i b7
    obtain⟨B,hB,hO⟩:=hr.obj i o ho
    exact⟨B,hle _ _ hB,hO.mono hle (lj.block _ hO.lt (Lw i o B ho hB b7))⟩
 ·intro i j oi oj Bi Bj h1 h2 h3 h4 h5
  rw[gC]at h1 h2
  have se:∀i o' B',i≠h.next->(if d=some i then none else h.obj i)=some o'->(E.put h.next ⟨g,cur.size,sz,0⟩) i=some B'->h.obj i=some o'/\d≠some i/\E i=some B':=by
   intro i o' B' b7 ho hB
   simp only[Env.put,zW b7]at hB
   split at ho
   ·cases ho
   ·exact⟨ho,by assumption,hB⟩
  have Q2:∀i o' B',i≠h.next->(if d=some i then none else h.obj i)=some o'->(E.put h.next ⟨g,cur.size,sz,0⟩) i=some B'->B'.b=g->False:=by
   intro i o' B' b7 ho hB hb
   obtain⟨h6,h7,h8⟩:=se i o' B' b7 ho hB
   rcases hg with hg |hg
   ·exact Lw i o' B' h6 h8 h7 (by rw[hb,hg])
   ·have:=aJ i o' B' h6 h8;omega
  by_cases ei:i=h.next<;>by_cases ej:j=h.next
  ·left;rw[ei,ej]
  ·rw[zW ej]at h2
   subst ei
   simp only[Env.put,zV,zQ]at h3
   subst h3
   exact(Q2 j oj Bj ej h2 h4 h5.symm).elim
  ·rw[zW ei]at h1
   subst ej
   simp only[Env.put,zV,zQ]at h4
   subst h4
   exact(Q2 i oi Bi ei h1 h3 h5).elim
  ·rw[zW ei]at h1
   rw[zW ej]at h2
   exact hr.inj i j oi oj Bi Bj (se i oi Bi ei h1 h3).1 (se j oj Bj ej h2 h4).1 (se i oi Bi ei h1 h3).2.2 (se j oj Bj ej h2 h4).2.2 h5
 ·intro i hi
  have:((h.py d).alloc { cells:=cells,sz:=sz,ty:=T }).next=h.next+1:=by show(h.py d).next+1=_;rw[AH.xc]
  rw[this]at hi
  simp only[Env.put,zW (show i≠h.next by omega)]
  exact hr.fresh _ (by omega)
 ·show h.next<=(h.py d).next+1
  rw[AH.xc];omega
 ·intro i hi hw
  rw[gC,zW (by omega)]
  split
  ·rename_i he
   exact absurd (hd i he).1 hw
  ·rfl
 ·intro i hi h0
  rw[gC,zW (by omega)]
  split
  ·rfl
  ·exact h0
 ·intro b hb kZ
  refine lj.block b hb ?_
  intro e
  cases wR:d with
  |none=>rw[hn wR]at e;cases e
  |some id=>
   obtain⟨h1,h2,⟨B,h3,h4⟩,h5⟩:=hd id wR
   rw[h4]at e
   cases e
   cases ho:h.obj id with
   |none=>exact h2 ho
   |some o=>exact kZ id B o h1 ho (h5 o ho) h3 rfl
 ·intro i B o1 h1 _ h2 h3
  rw[gC]at h1
  by_cases e:i=h.next
  ·subst e
   simp only[Env.put,zV,zQ]at h2
   subst h2
   rcases hg with hg |hg
   ·right
    cases wR:d with
    |none=>rw[hn wR]at hg;cases hg
    |some id=>
     obtain⟨h4,h5,⟨B',h6,h7⟩,h8⟩:=hd id wR
     rw[h7]at hg
     cases ho:h.obj id with
     |none=>exact absurd ho h5
     |some o=>exact⟨id,B',o,h4,ho,h8 o ho,h6,by simpa using hg⟩
   ·left;simp only;omega
  ·rw[zW e]at h1
   split at h1
   ·cases h1
   ·have:=h.lt _ _ h1;omega
 ·intro i o1 o2 h1 h2 h3
  have:=h.lt _ _ h1
  rw[gC,zW (by omega)]at h2
  split at h2
  ·cases h2
  ·rw[h1]at h2;cases h2;exact h3
def news(sz:Nat)(x:AV)(h:AH)(m:Nat)(cs:List AV):Prop:=
 match x with
 |.sl id off len=>(len=0/\m=0/\cs=[])\/(m=len/\∃o,h.obj id=some o/\o.kind=.row/\off+len*sz<=o.cells.length/\cs=(o.cells.drop off).take (len*sz))
 |.sc (.slice _ 0 _)=>m=0/\cs=[]
 |_=>False
def eh(a:Option (Nat×Nat×TypeId))(x y:AV)(h:AH)(W:Nat->Prop)(K:AV->AH->Prop):Prop:=
 match a with
 |none=>False
 |some (sz,bytes,e)=>∃m cs,news sz y h m cs /\
  match x with
  |.sc (.slice none 0 0)=>if m=0 then K (.sc (.slice none 0 0)) h else(m<=140737488355328/\m*bytes<=140737488355328)/\K (.sl h.next 0 m) (h.alloc { cells:=cs,sz:=sz,ty:=e })
  |.sl id off n=>if m=0 then K (.sl id off n) h else off=0/\∃o,(W id/\h.obj id=some o/\o.kind=.row/\o.ro=false/\o.sz=sz/\o.ty=e/\n*sz<=o.cells.length/\n+m<=140737488355328/\(n+m)*bytes<=140737488355328) /\
    K (.sl h.next 0 (n+m)) ((h.del id).alloc { cells:=o.cells.take (n*sz)++cs,sz:=sz,ty:=e })
  |_=>False
theorem lu{t ty e:TypeId}{i:TypeInfo}(w:World)(ht:P.underlying t=some (.slice e))(hi:P.info? e=some i)(base:Option Addr)(n cap:Nat)(hc:n<=cap)
  (x:Option Addr) (c:Nat) :
  (Builtin.append_ #[t,t] ty #[.slice base n cap,.slice x 0 c]).run P w=.ok (.slice base n cap) w:=by
 simp only[Builtin.append_]
 simp[bj ht,sizeOf,typeInfo,hi,Builtin.lenOf,hc]
 cases base with
 |none=>cases x<;>simp[Builtin.firstCells,loadCells,loadCellsFrom]
 |some a=>cases x<;>simp[Builtin.firstCells,loadCells,loadCellsFrom,storeCells]
theorem SJ{t ty:TypeId}{h:AH}{W:Nat->Prop}{w:World}{K:AV->AH->Prop}{x y:AV}{v u:Value}(hr:Rel E h w)(hx:VR E x v)(hy:VR E y u)
  (hp:eh (JH P t) x y h W K):ES P E h W w (Builtin.append_ #[t,t] ty #[v,u]) K:=by
 unfold eh at hp
 split at hp
 ·exact hp.elim
 rename_i sz bytes e he
 have NY:∃i z,P.underlying t=some (.slice e)/\P.info? e=some i/\i.zero=some z/\i.size=sz/\i.bytes=bytes/\z.cells.size=sz/\0<sz:=by
  unfold JH at he
  split at he<;>try cases he
  rename_i e' hu
  split at he<;>try cases he
  rename_i i hi
  split at he<;>try cases he
  rename_i z hz
  split at he<;>try cases he
  rename_i hc
  exact⟨i,z,hu,hi,hz,rfl,rfl,hc.1,hc.2⟩
 obtain⟨i,z,hu,hi,hz,gO,wV,HK,wM⟩:=NY
 obtain⟨m,cs,Bm,hp⟩:=hp
 have src:(m=0/\∃xa c,u=.slice xa 0 c)\/∃(ad:Addr)(c:Nat)(nv:List Value),u=.slice (some ad) m c/\nv.length=m*sz/\(∀(j:Nat)(q:Value),nv[j]?=some q->w.cell? (ad.add j)=some q)/\cu E cs nv/\(∀q∈nv,q.oneCell'=true):=by
  unfold news at Bm
  split at Bm
  ·rename_i id off len
   rcases Bm with⟨h0,rfl,rfl⟩ |⟨rfl,o,ho,hk,hlen,rfl⟩
   ·subst h0
    cases hy with
    |sl hB Dj hc hl hm=>exact .inl ⟨rfl,_,_,rfl⟩
   cases hy with
   |sl hB Dj hc hl hm=>
    rename_i o' cap B
    by_cases h0:m=0
    ·subst h0;exact .inl ⟨rfl,_,_,rfl⟩
    ·right
     have:o'=B.o+off:=by omega
     subst this
     obtain⟨B',cO,hO⟩:=hr.obj id o ho
     rw[hB]at cO;cases cO
     obtain⟨arr,fz,hb,_,hn,_,dJ⟩:=hO.row hk
     have hs:=dJ.get
     have Lx:0<m*sz:=Nat.mul_pos (by omega) wM
     refine⟨⟨B.b,B.o+off,none⟩,cap,(arr.extract (B.o+off) (B.o+off+m*sz)).toList,rfl,by simp;omega,?_,dJ.Hj hlen,?_⟩
     ·intro j q hj
      have rE:j<m*sz:=by
       have:=(zM.1 hj).1
       simp at this;omega
      have ha:(⟨B.b,B.o+off,none⟩:Addr).add j=⟨B.b,B.o+off+j,none⟩:=by unfold Addr.add;by_cases hk:j=0<;>simp[hk]
      rw[ha]
      rw[Array.getElem?_toList,Array.getElem?_extract,zX (by omega)]at hj
      simp[World.cell?,hb,hj]
     ·intro q hq
      obtain⟨j,hj,rfl⟩:=List.mem_iff_getElem.1 hq
      have rE:j<m*sz:=by simp at hj;omega
      obtain⟨q',jt,_,h1⟩:=dJ (off+j) (o.cells[off+j]'(by omega)) (zJ (by omega))
      have:((arr.extract (B.o+off) (B.o+off+m*sz)).toList)[j]?=arr[B.o+(off+j)]?:=by rw[Array.getElem?_toList,Array.getElem?_extract,zX (by omega),Nat.add_assoc]
      rw[zJ hj,jt]at this
      rw[Option.some.inj this];exact h1
  ·obtain⟨rfl,rfl⟩:=Bm
   cases hy
   exact .inl ⟨rfl,_,_,rfl⟩
  ·exact Bm.elim
 have fin:∀(xs:List Value)(n:Nat)(d row:Option Nat)(oc:List AV)(ad:Addr)(c:Nat)(nv:List Value),(∀id,d=some id->W id/\h.obj id≠none/\(∃B,E id=some B/\row=some B.b)/\∀o,h.obj id=some o->o.ro=false)->(d=none->row=none) ->
   v.ownBlock=row->w.ownsRow 0 e sz v n xs->cu E oc xs->(∀q∈xs,q.oneCell'=true)->0<m->n+m<=140737488355328->(n+m)*bytes<=140737488355328 ->
   u=.slice (some ad) m c->nv.length=m*sz->(∀(j:Nat)(q:Value),nv[j]?=some q->w.cell? (ad.add j)=some q)->cu E cs nv->(∀q∈nv,q.oneCell'=true) ->
   K (.sl h.next 0 (n+m)) ((h.py d).alloc { cells:=oc++cs,sz:=sz,ty:=e })->ES P E h W w (Builtin.append_ #[t,t] ty #[v,u]) K:=by
  intro xs n d row oc ad c nv hd Ds kR jd UX Lo Lx QF yL hue eG Vl hnv vp hK
  subst hue
  obtain⟨g,cap,w',fR,Jh,lj,FA,_⟩:=run_append_lies (P:=P) (w:=w) t ty 0 e i z sz bytes hu hi hz gO wV HK wM v n xs jd ad m c nv eG Vl vp Lx (by unfold maxLen;omega) yL (Nat.zero_le _) w.heap.size rfl
  obtain⟨hlen,Br⟩:=Jh
  rcases Br with⟨h1,_⟩ |⟨g',acw,cur,h1,_,Aj,hle,FC,yK,jx⟩
  ·cases h1
  ·cases h1
   have dJ:CR E (oc++cs) cur:=by
    have hv:=UX.append hnv
    rw[<-jx]at hv
    intro j q hj
    obtain⟨q',jt,gN⟩:=hv.get hj
    have rE:j<(n+m)*sz:=by
     have:=(zM.1 jt).1
     simp at this;omega
    rw[List.getElem?_take,zX rE]at jt
    refine⟨q',by simpa using jt,gN,?_⟩
    have:q'∈xs++nv:=by rw[<-jx];exact zP (by rw[List.getElem?_take,zX rE];exact jt)
    rcases List.mem_append.1 this with h |h
    ·exact Lo _ h
    ·exact vp _ h
   have eA:=Step.grow (W:=W) hr d hd Ds (g:=g) (by rw[<-kR];exact FA.imp id (fun h=>by omega)) (by rw[<-kR];exact lj) Aj sz dJ
   refine⟨_,_,_,_,w',eA,?_,hK,fR⟩
   exact .sl (B:=⟨g,cur.size,sz,0⟩) (by simp[Env.put]) (.inl rfl) (by simp[yK]) hle FC
 split at hp
 ·cases hx
  rcases src with⟨rfl,xa,c,rfl⟩ |⟨ad,c,nv,h1,h2,h3,h4,h5⟩
  ·simp only[zV]at hp
   exact⟨_,_,E,h,w,Step.refl hr,.sc _,hp,lu w hu hi none 0 0 (zU _) xa c⟩
  ·by_cases hm:m=0
   ·subst hm
    simp only[zV]at hp
    subst h1
    exact⟨_,_,E,h,w,Step.refl hr,.sc _,hp,lu w hu hi none 0 0 (zU _) (some ad) c⟩
   ·rw[zW hm]at hp
    exact fin [] 0 none none [] ad c nv (by simp) (by simp) rfl (World.ownsRow_nil _ _ _ _) .nil (by simp) (by omega) (by omega) (by simpa using hp.1.2) h1 h2 h3 h4 h5 (by simpa[AH.py] using hp.2)
 ·rename_i id off n
  cases hx with
  |sl hB Dj hc hl HO=>
   rename_i o' cap B
   rcases src with⟨rfl,xa,c,rfl⟩ |⟨ad,c,nv,h1,h2,h3,h4,h5⟩
   ·simp only[zV]at hp
    exact⟨_,_,E,h,w,Step.refl hr,.sl hB Dj hc hl HO,hp,lu w hu hi _ n cap hl xa c⟩
   ·by_cases hm:m=0
    ·subst hm
     simp only[zV]at hp
     subst h1
     exact⟨_,_,E,h,w,Step.refl hr,.sl hB Dj hc hl HO,hp,lu w hu hi _ n cap hl (some ad) c⟩
    ·rw[zW hm]at hp
     obtain⟨rfl,o,⟨hW,ho,hk,fc,Jj,Ji,eG,QF,yL⟩,hp⟩:=hp
     obtain⟨B',cO,hO⟩:=hr.obj id o ho
     rw[hB]at cO;cases cO
     obtain⟨arr,fz,hb,my,_,vv,dJ⟩:=hO.row hk
     obtain⟨my,hn,fN⟩:=my fc
     subst my
     have:o'=0:=by omega
     subst this
     have dJ:=dJ.zero fN
     have hs:=dJ.get
     have hv:=dJ.J9.Hj (off:=0) (n:=n*sz) (by omega)
     simp only[zG]at hv
     refine fin (arr.extract 0 (n*sz)).toList n (some id) (some B.b) (o.cells.take (n*sz)) ad c nv ?_ (by simp) rfl ?_ (by simpa using hv) ?_ (by omega) QF yL h1 h2 h3 h4 h5 hp
     ·intro pV hid
      cases hid
      exact⟨hW,by rw[ho];simp,⟨B,hB,rfl⟩,fun o2 h2=>by rw[ho]at h2;cases h2;exact fc⟩
     ·refine⟨by simp;omega,.inr ⟨B.b,cap,arr,rfl,Nat.zero_le _,by rw[<-Ji];exact hb,hl,HO,?_,?_⟩⟩
      ·rw[hn,<-hc,vv,Jj];omega
      ·simp[List.extract_eq_take_drop]
     ·intro q hq
      obtain⟨j,hj,rfl⟩:=List.mem_iff_getElem.1 hq
      have rE:j<n*sz:=by simp at hj;omega
      obtain⟨q',jt,_,h1⟩:=dJ j (o.cells[j]'(by omega)) (zJ (by omega))
      have:((arr.extract 0 (n*sz)).toList)[j]?=arr[j]?:=by rw[Array.getElem?_toList,Array.getElem?_extract,zX (by omega)];simp
      rw[zJ hj,jt]at this
      rw[Option.some.inj this];exact h1
 ·exact hp.elim
def qM(a:Option TypeId)(x y:AV)(h:AH)(W:Nat->Prop)(K:AV->AH->Prop):Prop:=
 match a,y with
 |some e,.sc (.string s)=>
  match x with
  |.sc (.slice none 0 0)=>if s.size=0 then K (.sc (.slice none 0 0)) h else s.size<=140737488355328/\K (.sl h.next 0 s.size) (h.alloc { cells:=jl s.data.toList,sz:=1,ty:=e })
  |.sl id off n=>off=0/\∃o,(W id/\h.obj id=some o/\o.kind=.row/\o.ro=false/\o.sz=1/\o.ty=e/\n<=o.cells.length/\n+s.size<=140737488355328) /\
    K (.sl h.next 0 (n+s.size)) ((h.del id).alloc { cells:=o.cells.take n++jl s.data.toList,sz:=1,ty:=e })
  |_=>False
 |_,_=>False
theorem M5(s:ByteArray):cu E (jl s.data.toList) (Lib.strCells s):=by
 unfold jl Lib.strCells
 generalize s.data.toList=l
 induction l with
 |nil=>exact .nil
 |cons b l ih=>exact .cons (.sc _) ih
theorem OJ{t u ty:TypeId}{h:AH}{W:Nat->Prop}{w:World}{K:AV->AH->Prop}{x y:AV}{v z:Value}(hr:Rel E h w)(hx:VR E x v)(hy:VR E y z)
  (hp:qM (Gz P t u) x y h W K):ES P E h W w (Builtin.append_ #[t,u] ty #[v,z]) K:=by
 unfold qM at hp
 split at hp
 ·rename_i e s he
  have NY:∃i,P.underlying t=some (.slice e)/\P.underlying u=some .string/\P.info? e=some i/\i.zero=some (.int .u8 0)/\i.size=1/\i.bytes=1:=by
   unfold Gz at he
   split at he<;>try cases he
   rename_i e' hu hs
   split at he<;>try cases he
   rename_i i hi
   split at he<;>try cases he
   rename_i hz
   split at he<;>try cases he
   rename_i hc
   exact⟨i,hu,hs,hi,hz,hc.1,hc.2⟩
  obtain⟨i,hu,hs,hi,hz,gO,wV⟩:=NY
  cases hy
  have XG:∀q∈Lib.strCells s,q.oneCell'=true:=by
   intro q hq
   unfold Lib.strCells at hq
   obtain⟨b,_,rfl⟩:=List.mem_map.1 hq
   rfl
  have HN:(Lib.strCells s).length=s.size:=Lib.strCells_length s
  have fin:∀(n:Nat)(oc:List AV)(xs cur:List Value),cu E oc xs->(∀q∈xs,q.oneCell'=true)->cur.take ((n+s.size)*1)=xs++Lib.strCells s->xs.length=n->CR E (oc++jl s.data.toList) cur.toArray:=by
   intro n oc xs cur UX Lo jx Qi j q hj
   have hv:=UX.append (M5 (E:=E) s)
   rw[<-jx]at hv
   obtain⟨q',jt,gN⟩:=hv.get hj
   have rE:j<(n+s.size)*1:=by
    have:=(zM.1 jt).1
    simp at this;omega
   rw[List.getElem?_take,zX rE]at jt
   refine⟨q',by simpa using jt,gN,?_⟩
   have:q'∈xs++Lib.strCells s:=by rw[<-jx];exact zP (by rw[List.getElem?_take,zX rE];exact jt)
   rcases List.mem_append.1 this with h |h
   ·exact Lo _ h
   ·exact XG _ h
  split at hp
  ·cases hx
   split at hp
   ·rename_i h0
    obtain⟨v',w',fR,jd,lj,Jm⟩:=Lib.run_append_own_string (P:=P) (w:=w) w.heap.size t u ty e i hu hs hi hz gO wV (.slice none 0 0) 0 [] (World.ownsRow_nil _ _ _ _) s (by rw[h0];unfold maxLen;omega) (by omega) (zU _)
    have hv':=Jm.2 ⟨rfl,h0⟩
    subst hv'
    have eA:Step E h W w E h w':=by
     have hb:∀b,b<w.heap.size->w'.heap[b]?=w.heap[b]?:=fun b hb=>lj.block b hb (by simp[Value.ownBlock])
     exact⟨fun _ _ h=>h,⟨fun id o ho=>let ⟨B,hB,hO⟩:=hr.obj id o ho;⟨B,hB,hO.mono (fun _ _ h=>h) (hb _ hO.lt)⟩,hr.inj,hr.fresh⟩,zU _,fun _ _ _=>rfl,fun _ _ h=>h,lj.os,lj.tape,lj.output,lj.size,fun b nG _=>hb b nG,
      fun id B o h1 _ _ h3=>(by have:=h.lt _ _ h1;omega),fun id o o' h1 h2 h3=>by rw[h1]at h2;cases h2;exact h3⟩
    exact⟨_,_,E,h,w',eA,.sc _,hp,fR⟩
   ·rename_i h0
    obtain⟨hb,hp⟩:=hp
    obtain⟨v',w',fR,jd,lj,Jm⟩:=Lib.run_append_own_string (P:=P) (w:=w) w.heap.size t u ty e i hu hs hi hz gO wV (.slice none 0 0) 0 [] (World.ownsRow_nil _ _ _ _) s (by unfold maxLen;omega) (by omega) (zU _)
    obtain⟨_,Br⟩:=jd
    rcases Br with⟨h1,_⟩ |⟨g,cap,cur,h1,ll,Aj,hle,FC,yK,jx⟩
    ·have:=(Jm.1 h1).2;omega
    ·subst h1
     have dJ:CR E ([]++jl s.data.toList) cur.toList.toArray:=fin 0 [] [] cur.toList .nil (by simp) (by simpa using jx) rfl
     have eA:=Step.grow (W:=W) hr none (row:=none) (by simp) (by simp) (g:=g) (.inr ll) lj (T:=e) (cur:=cur) Aj (cells:=jl s.data.toList) 1 (by simpa using dJ)
     simp only[zG]at *
     exact⟨_,_,_,_,w',eA,.sl (B:=⟨g,cur.size,1,0⟩) (by simp[Env.put]) (.inl rfl) (by simp[yK]) hle FC,hp,fR⟩
  ·rename_i id off n
   cases hx with
   |sl hB Dj hc hl HO=>
    rename_i o' cap B
    obtain⟨rfl,o,⟨hW,ho,hk,fc,Jj,Ji,eG,QF⟩,hp⟩:=hp
    obtain⟨B',cO,hO⟩:=hr.obj id o ho
    rw[hB]at cO;cases cO
    obtain⟨arr,fz,hb,my,_,vv,dJ⟩:=hO.row hk
    obtain⟨my,hn,fN⟩:=my fc
    subst my
    have:o'=0:=by omega
    subst this
    have dJ:=dJ.zero fN
    have Lu:=dJ.get
    have hv:=dJ.J9.Hj (off:=0) (n:=n) (by omega)
    simp only[zG]at hv
    have jd:w.ownsRow 0 e 1 (.slice (some ⟨B.b,0,none⟩) n cap) n (arr.extract 0 n).toList:=by
     refine⟨by simp;omega,.inr ⟨B.b,cap,arr,rfl,Nat.zero_le _,by rw[<-Ji];exact hb,hl,HO,?_,?_⟩⟩
     ·rw[hn,<-hc,vv,Jj];omega
     ·simp[List.extract_eq_take_drop]
    have Lo:∀q∈(arr.extract 0 n).toList,q.oneCell'=true:=by
     intro q hq
     obtain⟨j,hj,rfl⟩:=List.mem_iff_getElem.1 hq
     have rE:j<n:=by simp at hj;omega
     obtain⟨q',jt,_,h1⟩:=dJ j (o.cells[j]'(by omega)) (zJ (by omega))
     have:((arr.extract 0 n).toList)[j]?=arr[j]?:=by rw[Array.getElem?_toList,Array.getElem?_extract,zX (by omega)];simp
     rw[zJ hj,jt]at this
     rw[Option.some.inj this];exact h1
    obtain⟨v',w',fR,Jh,lj,Jm⟩:=Lib.run_append_own_string (P:=P) (w:=w) 0 t u ty e i hu hs hi hz gO wV _ n _ jd s (by unfold maxLen;omega) QF (Nat.zero_le _)
    have U0:∃g c,v'=.slice (some ⟨g,0,none⟩) (n+s.size) c/\(some B.b=some g\/w.heap.size<=g):=by
     have acP:arr.size=cap:=by rw[hn,<-hc,vv,Jj];omega
     by_cases XD:n+s.size<=cap
     ·have U6:=Lib.run_append_room_string (P:=P) (w:=w) t u ty e i hu hs hi gO B.b n cap arr (by rw[<-Ji];exact hb) s XD (by omega)
      rw[U6]at fR
      injection fR with e1 e2
      exact⟨B.b,cap,e1.symm,.inl rfl⟩
     ·have U6:=Lib.run_append_grow_string (P:=P) (w:=w) t u ty e i (.int .u8 0) hu hs hi hz ⟨B.b,0,none⟩ n cap _ (by rw[gO];simpa using jd.1) (fun j q hq=>jd.cells (g:=B.b) rfl j q hq) s (by omega) (by omega) (by rw[wV];exact growslice_fits (by omega) (by omega))
      rw[U6]at fR
      injection fR with e1 e2
      exact⟨w.heap.size,_,e1.symm,.inr (zU _)⟩
    obtain⟨g,c,rfl,hg⟩:=U0
    obtain⟨_,Br⟩:=Jh
    rcases Br with⟨h1,_⟩ |⟨g',acw,cur,h1,_,Aj,hle,FC,yK,jx⟩
    ·cases h1
    ·cases h1
     have Cl:CR E (o.cells.take n++jl s.data.toList) cur.toList.toArray:=fin n _ _ cur.toList (by simpa using hv) Lo (by simpa using jx) (by simpa using jd.1)
     have eA:=Step.grow (W:=W) hr (some id) (row:=some B.b) (fun pV oN=>by cases oN;exact⟨hW,by rw[ho];simp,⟨B,hB,rfl⟩,fun o2 h2=>by rw[ho]at h2;cases h2;exact fc⟩) (by simp) hg lj Aj 1 (by simpa using Cl)
     exact⟨_,_,_,_,w',eA,.sl (B:=⟨g,cur.size,1,0⟩) (by simp[Env.put]) (.inl rfl) (by simp[yK]) hle FC,hp,fR⟩
  ·exact hp.elim
 ·exact hp.elim
end
section
variable {P:Program} {E:Env}
def jk(n:Nat)(z:List Value):List Value:=(List.range n).map fun i=>z[i%z.length]!
def OT(P:Program)(t:TypeId)(len:Nat):Option (Nat×TypeId×List Value):=
 match P.underlying t with
 |some (.slice e)=>match eM P e,zeroOf P e with
  |some n,some z=>if len*n<=16777216/\len<=16777216 then some (n,e,jk (len*n) z) else none
  |_,_=>none
 |_=>none
def dK(z:Option (Nat×TypeId×List Value))(len:Nat)(parts:List (Nat×AV))(h:AH)(K:AV->AH->Prop):Prop:=
 match z with
 |some (sz,e,z0)=>∃cells,(dU (fun i=>some (i*sz,sz)) (z0.map .sc) parts=some cells/\cells.all cF=true)/\K (.sl h.next 0 len) (h.alloc { cells:=cells,sz:=sz,ty:=e })
 |none=>False
theorem xz{place:Nat->Option (Nat×Nat)}:∀(parts:List (Nat×AV))(cells m_:List AV),dU place cells parts=some m_->m_.length=cells.length
 |[],cells,m_,h=>by simp only[dU,zQ]at h;rw[h]
 |(i,x)::parts,cells,m_,h=>by
  simp only[dU]at h
  split at h
  ·split at h
   ·rw[xz parts _ _ h,r8]
   ·cases h
  ·cases h
theorem Ax(n:Nat)(z:Array Value):jk n z.toList=((Array.range n).map (fun i=>z[i%z.size]!)).toList:=by
 unfold jk
 simp only[Array.length_toList,Array.toList_map,Array.toList_range]
 refine List.map_congr_left fun a _=>?_
 rw[List.getElem!_eq_getElem?_getD,Array.getElem!_eq_getD,Array.getElem?_toList]
 cases h:z[a%z.size]?<;>simp[h]
theorem SF{t:TypeId}{len:Nat}{h:AH}{W:Nat->Prop}{w:World}{K:AV->AH->Prop}{parts:List (Nat×AV)}{pv:Array (Nat×Value)}(hr:Rel E h w)
  (tF:F2 (fun a b=>a.1=b.1/\VR E a.2 b.2) parts pv.toList) (hp:dK (OT P t len) len parts h K):ES P E h W w (Instr.buildSlice t len pv) K:=by
 unfold dK at hp
 split at hp
 ·rename_i sz e z0 hz
  obtain⟨cells,⟨hf,h1⟩,hp⟩:=hp
  unfold OT at hz
  split at hz<;>try cases hz
  rename_i e' hu
  split at hz<;>try cases hz
  rename_i n z hn US
  split at hz<;>try cases hz
  rename_i hb
  obtain⟨v,hv,fR⟩:=qC US
  have Qg:cu E ((jk (len*sz) z).map .sc) ((Array.range (len*sz)).map (fun i=>v.cells[i%v.cells.size]!)).toList:=by
   rw[<-Ax,hv];exact cu.lift E _
  obtain⟨pA,jy,gN⟩:=xV (place:=fun i=>some (i*sz,sz)) parts pv.toList _ cells _ tF Qg hf
  have hlen:pA.size=len*sz:=by
   have:=gN.length
   rw[xz _ _ _ hf]at this
   simp[jk]at this
   omega
  have dJ:CR E cells pA:=by simpa using gN.cr (gN.one h1)
  refine⟨_,.slice (some ⟨w.heap.size,0,none⟩) len len,_,_,_,Step.alloc (o:={ cells:=cells,sz:=sz,ty:=e }) hr rfl dJ,?_,hp,?_⟩
  ·exact .sl (B:=⟨w.heap.size,pA.size,sz,0⟩) (by simp[Env.put]) (.inl rfl) (by simp[hlen]) (zU _) (by unfold maxLen;omega)
  ·have hle:¬len*sz > 2^24:=by have:=hb.1;omega
   simp only[Instr.buildSlice,Sem.run_bind,bj hu,Result.andThen_ok,hF hn]
   rw[zW hle]
   by_cases h0:len*sz=0
   ·have he:(Array.range (len*sz)).map (fun i=>v.cells[i%v.cells.size]!)=(Array.range (len*sz)).map (fun i=>(#[]:Array Value)[i%(#[]:Array Value).size]!):=by simp[h0]
    rw[he]at jy
    simp[h0]at jy ⊢
    simp[jy,newRow]
   ·simp[h0,fR,jy,newRow]
 ·exact hp.elim
def NH(P:Program)(t:TypeId):Option (Nat×Nat×TypeId×List Value):=
 match P.underlying t with
 |some (.slice e)=>match P.info? e,zeroOf P e with
  |some i,some z=>if 0<i.size then some (i.size,i.bytes,e,z) else none
  |_,_=>none
 |_=>none
def H_(a:Option (Nat×Nat×TypeId×List Value))(l c:AV)(h:AH)(K:AV->AH->Prop):Prop:=
 match a,l,c with
 |some (sz,bytes,e,z),.sc (.int _ n),.sc (.int _ m)=>(0<=n/\n<=m/\m<=140737488355328/\m*bytes<=140737488355328/\z.all (·.oneCell')=true/\z.length=sz) /\
   K (.sl h.next 0 n.toNat) (h.alloc { cells:=(jk (n.toNat*sz) z).map .sc,sz:=sz,ty:=e })
 |_,_,_=>False
theorem Hh{n:Int}(h0:0<=n)(h1:n<=140737488355328):IntKind.i64.wrap n=n:=IntWalk.i64_in _ (by omega)
theorem Wh{t:TypeId}{h:AH}{W:Nat->Prop}{w:World}{K:AV->AH->Prop}{l c:AV}{lv cv:Value}(hr:Rel E h w)(hl:VR E l lv)(hc:VR E c cv)(hp:H_ (NH P t) l c h K) :
  ES P E h W w (Instr.makeSlice t lv cv) K:=by
 unfold H_ at hp
 split at hp
 ·rename_i sz bytes e z k n k' m hz
  obtain⟨⟨h0,h1,h2,h3,h4,h5⟩,hp⟩:=hp
  unfold NH at hz
  split at hz<;>try cases hz
  rename_i e' hu
  split at hz<;>try cases hz
  rename_i i z' hi US
  split at hz<;>try cases hz
  rename_i wM
  obtain⟨v,hv,fR⟩:=qC US
  cases hl;cases hc
  have U2:=Hh (n:=n) h0 (by omega)
  have Df:=Hh (n:=m) (by omega) h2
  have hzp:0<z.length:=by omega
  have aaQ:∀(j:Nat),j<n.toNat*i.size->(jk (n.toNat*i.size) z)[j]?=(jk (m.toNat*i.size) z)[j]?:=by
   intro j hj
   have:n.toNat*i.size<=m.toNat*i.size:=Nat.mul_le_mul_right _ (by omega)
   unfold jk
   simp only[List.getElem?_map,List.getElem?_range hj,List.getElem?_range (Nat.lt_of_lt_of_le hj this)]
  have nk:∀N,∀q∈jk N z,q.oneCell'=true:=by
   intro N q hq
   unfold jk at hq
   simp only[List.mem_map,List.mem_range]at hq
   obtain⟨j,_,rfl⟩:=hq
   refine(List.all_eq_true.1 h4) _ ?_
   rw[List.getElem!_eq_getElem?_getD,zJ (Nat.mod_lt _ hzp)]
   simp
  have dJ:CR E ((jk (n.toNat*i.size) z).map .sc) ((Array.range (m.toNat*i.size)).map (fun j=>v.cells[j%v.cells.size]!)):=by
   intro j q hj
   rw[List.getElem?_map]at hj
   cases hq:(jk (n.toNat*i.size) z)[j]? with
   |none=>rw[hq]at hj;cases hj
   |some u=>
    rw[hq]at hj
    cases hj
    have rE:j<n.toNat*i.size:=by
     have:=(zM.1 hq).1
     simpa[jk] using this
    refine⟨u,?_,.sc _,nk _ _ (zP hq)⟩
    rw[aaQ j rE,<-hv,Ax]at hq
    rw[Array.getElem?_toList]at hq
    exact hq
  refine⟨_,.slice (some ⟨w.heap.size,0,none⟩) n.toNat m.toNat,_,_,_,Step.alloc (o:={ cells:=(jk (n.toNat*i.size) z).map .sc,sz:=i.size,ty:=e }) hr rfl dJ,?_,hp,?_⟩
  ·exact .sl (B:=⟨w.heap.size,_,i.size,0⟩) (by simp[Env.put];rfl) (.inl rfl) (by simp) (by omega) (by unfold maxLen;omega)
  ·have hbn:(m*(i.bytes:Int))<=140737488355328:=h3
   have VH:(i.bytes:Int)*m=m*(i.bytes:Int):=Int.mul_comm _ _
   simp only[Instr.makeSlice,Sem.run_bind,bj hu,Result.andThen_ok,asInt,asIntOf,Sem.run_pure,typeInfo,run_program,hi,U2,Df]
   have c1:(decide (m<0)||decide ((i.bytes:Int)*m > 2^48))=false:=by
    rw[VH];simp only[Bool.or_eq_false_iff,decide_eq_false_iff_not];omega
   simp only[c1,show ¬n<0 from by omega,show ¬n > m from by omega,decide_false,Bool.or_false,zE,if_false,run_askRoom,Result.andThen_ok]
   have gO:eM P e=some i.size:=by simp[eM,hi]
   simp only[Sem.run_bind,run_askRoom,hF gO,Result.andThen_ok]
   by_cases Lx:m.toNat*i.size=0
   ·have h0r:∀f:Nat->Value,(Array.range 0).map f=#[]:=fun f=>by apply Array.ext';simp
    simp[Lx,newRow,h0r]
   ·simp[Lx,fR,newRow]
 ·exact hp.elim
def AH.iJ(h:AH)(id:Nat)(k:Kind):AH:=h.eP id fun o=>{ o with kind:=k }
def qa(str:Bool)(x:AV)(h:AH)(K:AV->AH->Prop):Prop:=
 match str,x with
 |true,.sc (.string s)=>K (.ptr h.next 0) (h.alloc { cells:=[],sz:=0,ty:=0,kind:=.iter s 0 })
 |_,_=>False
theorem Me{t:TypeId}{h:AH}{W:Nat->Prop}{w:World}{K:AV->AH->Prop}{x:AV}{v:Value}(hr:Rel E h w)(hx:VR E x v)(hp:qa (gS P t) x h K) :
  ES P E h W w (Instr.range t v) K:=by
 unfold qa at hp
 split at hp
 ·rename_i s ht
  unfold gS at ht
  split at ht
  ·rename_i hu
   cases hx
   refine⟨_,.pointer (some ⟨w.heap.size,0,none⟩),_,_,_,Step.GC (o:={ cells:=[],sz:=0,ty:=0,kind:=.iter s 0 }) hr (.stringIter s 0) 0 0 (fun _ _ _ hw=>⟨rfl,hw⟩),?_,hp,?_⟩
   ·exact .ptr (B:=⟨w.heap.size,0,0,0⟩) (by simp[Env.put])
   ·simp[Instr.range,bj hu]
  ·cases ht
 ·exact hp.elim
def sI(x:AV)(h:AH)(W:Nat->Prop)(K:AV->AH->Prop):Prop:=
 match x with
 |.ptr id 0=>∃o s p,(W id/\h.obj id=some o/\o.kind=.iter s p/\o.ro=false) /\
   if p<s.size then K (.cP [.b true,.i p,.sc (.int .i32 (Utf8.decode s p).1)]) (h.iJ id (.iter s (p+(Utf8.decode s p).2))) else K (.cP [.b false]) h
 |_=>False
theorem Step.setIter{h:AH}{W:Nat->Prop}{w:World}(hr:Rel E h w){id:Nat}{B:oE}{o:AO}{s:ByteArray}{p q:Nat}(hW:W id)(ho:h.obj id=some o)(hB:E id=some B)(hk:o.kind=.iter s p)(fc:o.ro=false) :
  Step E h W w E (h.iJ id (.iter s q)) { w with heap:=w.heap.setIfInBounds B.b (.stringIter s q) }:=by
 have aJ:B.b<w.heap.size:=by
  obtain⟨B',cO,hO⟩:=hr.obj id o ho
  rw[hB]at cO;cases cO
  exact hO.lt
 have fN:B.o=0:=by
  obtain⟨B',cO,hO⟩:=hr.obj id o ho
  rw[hB]at cO;cases cO
  unfold OR at hO;rw[hk]at hO;exact hO.1
 have gC:∀i,(h.iJ id (.iter s q)).obj i=if i=id then(h.obj i).map (fun o=>{ o with kind:=.iter s q }) else h.obj i:=fun _=>rfl
 have Fz:∀k,k≠B.b->(w.heap.setIfInBounds B.b (.stringIter s q))[k]?=w.heap[k]?:=fun k hk=>Array.getElem?_setIfInBounds_ne (fun e=>hk e.symm)
 refine⟨fun _ _ h=>h,⟨?_,?_,hr.fresh⟩,zU _,?_,?_,rfl,rfl,rfl,by simp,?_,?_,?_⟩
 ·intro i o' dy
  rw[gC]at dy
  by_cases e:i=id
  ·subst e
   rw[zX rfl,ho]at dy
   cases dy
   exact⟨B,hB,by unfold OR;exact⟨fN,by simp[aJ]⟩⟩
  ·rw[zW e]at dy
   obtain⟨B',cO,hO⟩:=hr.obj i o' dy
   exact⟨B',cO,hO.mono (fun _ _ h=>h) (Fz _ fun p_=>(hr.inj i id o' o B' B dy ho cO hB p_).elim e (fun hh=>by rw[fc]at hh;cases hh.2))⟩
 ·intro i j oi oj Bi Bj h1 h2
  rw[gC]at h1 h2
  have nR:∀i oi,(if i=id then(h.obj i).map (fun o=>({ o with kind:=.iter s q }:AO)) else h.obj i)=some oi->∃o',h.obj i=some o'/\o'.ro=oi.ro:=by
   intro i oi hi
   split at hi
   ·cases ho:h.obj i with
    |none=>rw[ho]at hi;cases hi
    |some o'=>rw[ho]at hi;simp only[yB,zQ]at hi;subst hi;exact⟨o',rfl,rfl⟩
   ·exact⟨oi,hi,rfl⟩
  obtain⟨a,ha,ra⟩:=nR i oi h1
  obtain⟨b,hb,rb⟩:=nR j oj h2
  rw[<-ra,<-rb]
  exact hr.inj i j a b Bi Bj ha hb
 ·intro i _ hm
  rw[gC,zW (fun(e:i=id)=>hm (e ▸ hW))]
 ·intro i _ h0
  rw[gC,h0];simp
 ·intro b _ kZ
  exact Fz _ (fun p_=>kZ id B o hW ho fc hB p_.symm)
 ·intro i C oi hi _ _ ll
  rw[gC]at hi
  have:h.obj i≠none:=fun h0=>by rw[h0]at hi;simp at hi
  have:=AH.K3 this
  omega
 ·intro i o1 o2 dP eB oQ
  rw[gC]at eB
  split at eB
  ·rw[dP]at eB;simp only[yB,zQ]at eB;subst eB;exact oQ
  ·rw[dP]at eB;cases eB;exact oQ
theorem OI{t:TypeId}{h:AH}{W:Nat->Prop}{w:World}{K:AV->AH->Prop}{x:AV}{v:Value}(hr:Rel E h w)(hx:VR E x v)(hp:sI x h W K) :
  ES P E h W w (Instr.next v true t) K:=by
 unfold sI at hp
 split at hp
 ·rename_i id
  obtain⟨o,s,p,⟨hW,ho,hk,fc⟩,hp⟩:=hp
  cases hx with
  |ptr hB=>
   rename_i B
   obtain⟨B',cO,hO⟩:=hr.obj id o ho
   rw[hB]at cO;cases cO
   have hw:w.heap[B.b]?=some (.stringIter s p):=by unfold OR at hO;rw[hk]at hO;exact hO.2
   have fN:B.o=0:=by unfold OR at hO;rw[hk]at hO;exact hO.1
   rw[fN]
   have Ck:(getObj B.b).run P w=.ok (.stringIter s p) w:=by simp[getObj,Sem.run,hw]
   split at hp
   ·rename_i aJ
    refine⟨_,.tuple #[.bool true,goInt p,.int .i32 (Utf8.decode s p).1],E,_,_,Step.setIter (q:=p+(Utf8.decode s p).2) hr hW ho hB hk fc,?_,hp,?_⟩
    ·exact .cP (vs:=[.bool true,goInt p,.int .i32 (Utf8.decode s p).1]) (.cons (.sc _) (.cons (.sc _) (.cons (.sc _) .nil)))
    ·simp only[Instr.next,Sem.run_bind,Ck,Result.andThen_ok,zX aJ]
     simp[setObj,Sem.run,hw]
   ·rename_i aJ
    refine⟨_,.tuple #[.bool false],E,h,w,Step.refl hr,.cP (vs:=[.bool false]) (.cons (.sc _) .nil),hp,?_⟩
    simp only[Instr.next,Sem.run_bind,Ck,Result.andThen_ok,zW aJ,Sem.run_pure]
 ·exact hp.elim
end
section
variable {P:Program} {E:Env}
def jq(P:Program)(kt:TypeId)(a b:AV):Option Bool:=
 match a,b with
 |.sc (.string x),.sc (.string y)=>if gS P kt=true then some (decide (x=y)) else none
 |.sc (.int k x),.sc (.int k' y)=>if (tD P kt).isSome=true/\k=k' then some (x==y) else none
 |.agg xs,.agg ys=>(k_ P kt).bind fun ks=>if xs.length=ks.length/\ys.length=ks.length then gf ks xs ys else none
 |_,_=>none
def me(P:Program)(kt:TypeId)(k:AV):List (AV×AV)->Nat->Option (Option (Nat×AV))
 |[],_=>some none
 |(k',v)::l,i=>
  match jq P kt k k' with
  |some true=>some (some (i,v))
  |some false=>me P kt k l (i+1)
  |none=>none
def qK(P:Program)(kt:TypeId)(k:AV):Bool:=(jq P kt k k).isSome
theorem IL(a b:ByteArray):(a==b)=decide (a=b):=by rw[beq_toListBytes,AL]
theorem xQ{t:TypeId}(h:gS P t=true):P.underlying t=some .string:=by
 unfold gS at h;split at h<;>simp_all
theorem xR{t:TypeId}(h:(tD P t).isSome=true):∃k,P.underlying t=some (.int k):=by
 unfold tD at h;split at h<;>simp_all
theorem BE{t:TypeId}{ks:List Bool}(h:k_ P t=some ks):∃fs,P.underlying t=some (.struct fs)/\lr P 0 fs.toList=some ks/\P.stoodInHeld t=false:=by
 unfold k_ at h
 split at h
 ·rename_i hg
  split at h
  ·rename_i fs hu;exact⟨fs,hu,h,hg.2⟩
  ·cases h
 ·cases h
theorem I3{kt:TypeId}{a b:AV}{v u:Value}{r:Bool}(w:World)(hx:VR E a v)(hy:VR E b u)(h:jq P kt a b=some r):(Op.equal kt v u).run P w=.ok r w:=by
 unfold jq at h
 split at h
 ·split at h
  ·rename_i hs
   cases hx;cases hy;cases h
   show(Op.equalIn 10000 kt _ _).run P w=_
   rw[run_equalIn_string w 9999 kt _ _ (xQ hs),AL]
  ·cases h
 ·split at h
  ·rename_i hs
   obtain⟨hi,rfl⟩:=hs
   cases hx;cases hy;cases h
   obtain⟨k,hk⟩:=xR hi
   show(Op.equalIn 10000 kt _ _).run P w=_
   rw[run_equalIn_int w 9999 kt _ k _ _ hk]
  ·cases h
 ·rename_i xs ys
  cases hf:k_ P kt with
  |none=>rw[hf]at h;cases h
  |some ks=>
   rw[hf]at h
   simp only[Option.bind_some]at h
   split at h
   ·obtain⟨fs,hu,jR,eA⟩:=BE hf
    cases hx with |agg hx=>cases hy with |agg hy=>
    have LC:P.fieldsOf kt=fs:=by unfold Program.fieldsOf;rw[hu]
    show(Op.equalIn 10000 kt _ _).run P w=_
    rw[run_equalIn_struct w 9999 kt _ _ (by rw[LC];exact hu) eA,LC]
    exact sP w _ 0 ks xs ys _ _ _ _ r jR h hx hy (fun i=>by simp) (fun i=>by simp)
   ·cases h
 ·cases h
theorem uQ:∀{ks:List Bool}{xs ys:List AV}{vs us:List Value},xs.length=ks.length->ys.length=ks.length->gf ks xs ys=some true->cu E xs vs->cu E ys us->vs=us
 |[],xs,ys,vs,us,hx,hy,_,h1,h2=>by
  have e1:xs=[]:=List.length_eq_zero_iff.1 hx
  have e2:ys=[]:=List.length_eq_zero_iff.1 hy
  subst e1;subst e2;cases h1;cases h2;rfl
 |b::ks,xs,ys,vs,us,hx,hy,h,h1,h2=>by
  unfold gf at h
  split at h
  ·rename_i hh;cases hh
  ·rename_i hh;cases hh
   cases h1 with |cons a1 r1=>cases h2 with |cons a2 r2=>
   cases a1;cases a2
   cases hq:gf ks _ _ with
   |none=>rw[hq]at h;cases h
   |some q=>
    rw[hq]at h
    simp only[yB,zQ,yC,decide_eq_true_eq]at h
    obtain⟨e,rfl⟩:=h
    rw[e,uQ (by simpa using hx) (by simpa using hy) hq r1 r2]
  ·rename_i hh;cases hh
   split at h
   ·rename_i hk
    subst hk
    cases h1 with |cons a1 r1=>cases h2 with |cons a2 r2=>
    cases a1;cases a2
    cases hq:gf ks _ _ with
    |none=>rw[hq]at h;cases h
    |some q=>
     rw[hq]at h
     simp only[yB,zQ,yC,beq_iff_eq]at h
     obtain⟨e,rfl⟩:=h
     rw[e,uQ (by simpa using hx) (by simpa using hy) hq r1 r2]
   ·cases h
  ·cases h
theorem uR:∀{ks:List Bool}{xs ys:List AV}{vs us:List Value}{b:Bool},xs.length=ks.length->gf ks xs ys=some b->cu E xs vs->(vs.zip vs).all (fun(x,y)=>Instr.sameBits 9999 x y)=true
 |[],xs,ys,vs,us,b,hx,_,h1=>by
  have e1:xs=[]:=List.length_eq_zero_iff.1 hx
  subst e1;cases h1;rfl
 |c::ks,xs,ys,vs,us,b,hx,h,h1=>by
  unfold gf at h
  split at h
  ·rename_i hh;cases hh
  ·rename_i hh;cases hh
   cases h1 with |cons a1 r1=>
   cases a1
   cases hq:gf ks _ _ with
   |none=>rw[hq]at h;cases h
   |some q=>
    have:=uR (us:=us) (by simpa using hx) hq r1
    simp only[List.zip_cons_cons,List.all_cons,this,Bool.and_true]
    simp[Instr.sameBits,IL]
  ·rename_i hh;cases hh
   split at h
   ·cases h1 with |cons a1 r1=>
    cases a1
    cases hq:gf ks _ _ with
    |none=>rw[hq]at h;cases h
    |some q=>
     have:=uR (us:=us) (by simpa using hx) hq r1
     simp only[List.zip_cons_cons,List.all_cons,this,Bool.and_true]
     simp[Instr.sameBits]
   ·cases h
  ·cases h
theorem yv{kt:TypeId}{a b:AV}{v u:Value}(hx:VR E a v)(hy:VR E b u)(h:jq P kt a b=some true):v=u/\Instr.sameBits 10000 u v=true:=by
 unfold jq at h
 split at h
 ·split at h
  ·cases hx;cases hy
   simp only[zQ,decide_eq_true_eq]at h
   subst h
   exact⟨rfl,by simp[Instr.sameBits,IL]⟩
  ·cases h
 ·split at h
  ·rename_i hs
   obtain⟨_,rfl⟩:=hs
   cases hx;cases hy
   simp only[zQ,beq_iff_eq]at h
   subst h
   exact⟨rfl,by simp[Instr.sameBits]⟩
  ·cases h
 ·cases hf:k_ P kt with
  |none=>rw[hf]at h;cases h
  |some ks=>
   rw[hf]at h
   simp only[Option.bind_some]at h
   split at h
   ·rename_i hl
    cases hx with |agg hx=>cases hy with |agg hy=>
    have e:=uQ hl.1 hl.2 h hx hy
    subst e
    have:=uR (us:=[]) hl.1 h hx
    refine⟨rfl,?_⟩
    simp only[Instr.sameBits,this,beq_self_eq_true,Bool.and_self]
   ·cases h
 ·cases h
theorem D1{kt:TypeId}{kind:TypeDesc}{a b:AV}{v u:Value}{r:Bool}(hu:P.underlying kt=some kind)(hx:VR E a v)(hy:VR E b u)(h:jq P kt a b=some r):Instr.sameNow kind v u=some r\/Instr.sameNow kind v u=none:=by
 unfold jq at h
 split at h
 ·split at h
  ·rename_i hs
   rw[xQ hs]at hu;cases hu
   cases hx;cases hy;cases h
   left;simp[Instr.sameNow,IL]
  ·cases h
 ·split at h
  ·rename_i hs
   obtain⟨hi,rfl⟩:=hs
   obtain⟨k,hk⟩:=xR hi
   rw[hk]at hu;cases hu
   cases hx;cases hy;cases h
   left;simp[Instr.sameNow]
  ·cases h
 ·cases hx with |agg hx=>
  right
  cases hf:k_ P kt with
  |none=>rw[hf]at h;cases h
  |some ks=>
   obtain⟨fs,Ls,_⟩:=BE hf
   rw[Ls]at hu;cases hu
   simp[Instr.sameNow]
 ·cases h
def rR(E:Env)(kv:Value)(es:List MapEntry)(i0:Nat):Option (Nat×AV)->Option (Nat×Value)->Prop
 |none,none=>True
 |some (i,a),some (j,u)=>i=j/\VR E a u/\i0<=i/\∃e,es[i-i0]?=some e/\e.val=u/\e.key=kv/\Instr.sameBits 10000 e.key kv=true
 |_,_=>False
theorem rR.cons{kv:Value}{e:MapEntry}{es:List MapEntry}{i:Nat}{r:Option (Nat×AV)}{q:Option (Nat×Value)}(h:rR E kv es (i+1) r q):rR E kv (e::es) i r q:=by
 unfold rR at *
 split at h
 ·trivial
 ·obtain⟨h1,h2,h3,e',h4,h5⟩:=h
  refine⟨h1,h2,by omega,e',?_,h5⟩
  rename_i j _ _ _
  rw[show j-i=(j-(i+1))+1 by omega,zB];exact h4
 ·exact h.elim
theorem rR.here{kv:Value}{e:MapEntry}{es:List MapEntry}{i:Nat}{a:AV}(h1:VR E a e.val)(h2:e.key=kv)(h3:Instr.sameBits 10000 e.key kv=true):rR E kv (e::es) i (some (i,a)) (some (i,e.val)):=
 ⟨rfl,h1,zU _,e,by simp,rfl,h2,h3⟩
theorem tN{kt:TypeId}{k:AV}{kv:Value}(hk:VR E k kv):∀{l:List (AV×AV)}{es:List MapEntry}{i:Nat}{r:Option (Nat×AV)},MR E l es->me P kt k l i=some r->∃q,rR E kv es i r q/\∀w,(Instr.findAsking kt kv es i).run P w=.ok q w
 |_,_,i,r,.nil,h=>by
  simp only[me,zQ]at h
  subst h
  exact⟨none,trivial,by simp[Instr.findAsking]⟩
 |_,_,i,r,.cons (k:=k') (e:=e) h1 h2 h3,h=>by
  simp only[me]at h
  cases hc:jq P kt k k' with
  |none=>rw[hc]at h;cases h
  |some b=>
   rw[hc]at h
   have hr:=fun w=>I3 w hk h1 hc
   cases b with
   |true=>
    simp only[zQ]at h
    subst h
    obtain⟨e1,e2⟩:=yv hk h1 hc
    refine⟨some (i,e.val),rR.here h2 e1.symm e2,fun w=>?_⟩
    simp only[Instr.findAsking,Sem.run_bind,hr,Result.andThen_ok,zV,Sem.run_pure]
   |false=>
    obtain⟨q,q1,q2⟩:=tN hk h3 h
    refine⟨q,q1.cons,fun w=>?_⟩
    simp only[Instr.findAsking,Sem.run_bind,hr,Result.andThen_ok,zE,if_false,q2]
theorem vR{kt:TypeId}{kind:TypeDesc}{k:AV}{kv:Value}(hu:P.underlying kt=some kind)(hk:VR E k kv):∀{l:List (AV×AV)}{es:List MapEntry}{i:Nat}{r:Option (Nat×AV)},MR E l es->me P kt k l i=some r->Instr.findNow kind kv es i=none\/∃q,rR E kv es i r q/\Instr.findNow kind kv es i=some q
 |_,_,i,r,.nil,h=>by
  simp only[me,zQ]at h
  subst h
  exact .inr ⟨none,trivial,by simp[Instr.findNow]⟩
 |_,_,i,r,.cons (k:=k') (e:=e) h1 h2 h3,h=>by
  simp only[me]at h
  cases hc:jq P kt k k' with
  |none=>rw[hc]at h;cases h
  |some b=>
   rw[hc]at h
   rcases D1 hu hk h1 hc with hs |hs
   ·cases b with
    |true=>
     simp only[zQ]at h
     subst h
     obtain⟨e1,e2⟩:=yv hk h1 hc
     exact .inr ⟨some (i,e.val),rR.here h2 e1.symm e2,by simp[Instr.findNow,hs]⟩
    |false=>
     rcases vR hu hk h3 h with hn |⟨q,q1,q2⟩
     ·exact .inl (by simp[Instr.findNow,hs,hn])
     ·exact .inr ⟨q,q1.cons,by simp[Instr.findNow,hs,q2]⟩
   ·exact .inl (by simp[Instr.findNow,hs])
theorem Sm{kt:TypeId}{k:AV}(h:qK P kt k=true):∃kind,P.underlying kt=some kind:=by
 unfold qK jq at h
 split at h
 ·split at h
  ·rename_i hs;exact⟨_,xQ hs⟩
  ·cases h
 ·split at h
  ·rename_i hs;obtain⟨k,hk⟩:=xR hs.1;exact⟨_,hk⟩
  ·cases h
 ·cases hf:k_ P kt with
  |none=>rw[hf]at h;cases h
  |some ks=>obtain⟨fs,hu,_⟩:=BE hf;exact⟨_,hu⟩
 ·cases h
theorem yW{kt:TypeId}{k:AV}{kv:Value}{l:List (AV×AV)}{es:List MapEntry}{r:Option (Nat×AV)}(ho:qK P kt k=true)(hk:VR E k kv)(hm:MR E l es)(h:me P kt k l 0=some r):∃q,rR E kv es 0 r q/\∀w,(Instr.findKey kt kv es).run P w=.ok q w:=by
 obtain⟨kind,hu⟩:=Sm ho
 rcases vR hu hk hm h with hn |⟨q,q1,q2⟩
 ·obtain⟨q,q1,q2⟩:=tN hk hm h
  refine⟨q,q1,fun w=>?_⟩
  simp only[Instr.findKey,Sem.run_bind,bj hu,Result.andThen_ok,hn,q2]
 ·refine⟨q,q1,fun w=>?_⟩
  simp only[Instr.findKey,Sem.run_bind,bj hu,Result.andThen_ok,q2,Sem.run_pure]
theorem s7(b:Bool)(d:Nat)(w:World)(A:Array Value):∀(fs:List Field)(o:Nat)(ks:List Bool)(xs ys:List AV)(vs:List Value)(r:Bool),lr P o fs=some ks->gf ks xs ys=some r->cu E xs vs->(∀i,A[o+i]?=vs[i]?) ->
  ∀ f ∈ fs, f.name ≠ "_" ∧ ∃ v, (part f.type A f.offset).run P w = .ok v w ∧ (Instr.checkKey b (d + 1) f.type v).run P w = .ok () w
 |[],_,_,_,_,_,_,_,_,_,_=>fun f hf=>by cases hf
 |f::fs,o,ks,xs,ys,vs,r,hf,he,hx,hA=>by
  simp only[lr]at hf
  split at hf
  ·rename_i hn
   obtain⟨hn,ho⟩:=hn
   have LR:∀i,A[o+1+i]?=vs.tail[i]?:=fun i=>by rw[show o+1+i=o+(i+1) by omega,hA];cases vs<;>simp
   have a0:=hA 0
   rw[Nat.add_zero]at a0
   have uk:∀(v:Value)(g:TypeDesc),P.underlying f.type=some g->(match g with |.struct _=>false |.array _ _=>false |_=>true)=true->A[o]?=some v->(part f.type A f.offset).run P w=.ok v w:=by
    intro v g hg hs hc
    rw[ho]
    simp only[part,isAgg,Sem.run_bind,bj hg,Result.andThen_ok]
    cases g<;>simp[hc]at hs ⊢
   split at hf
   ·rename_i hu
    cases lm:lr P (o+1) fs with
    |none=>rw[lm]at hf;cases hf
    |some wF=>
     rw[lm]at hf
     simp only[yB,zQ]at hf
     subst hf
     unfold gf at he
     split at he
     ·rename_i h;cases h
     ·rename_i h
      cases h
      cases hx with |cons h1 sA=>
      cases h1
      cases hq:gf wF _ _ with
      |none=>rw[hq]at he;cases he
      |some q=>
       have ih:=s7 b d w A fs (o+1) wF _ _ _ q lm hq sA LR
       intro g hg
       rcases List.mem_cons.1 hg with hg |hg
       ·subst hg
        refine⟨hn,_,uk _ _ hu rfl (by rw[a0];rfl),?_⟩
        rw[Instr.checkKey];simp[bj hu]
       ·exact ih g hg
     ·rename_i h;cases h
     ·cases he
   ·rename_i kk hu
    cases lm:lr P (o+1) fs with
    |none=>rw[lm]at hf;cases hf
    |some wF=>
     rw[lm]at hf
     simp only[yB,zQ]at hf
     subst hf
     unfold gf at he
     split at he
     ·rename_i h;cases h
     ·rename_i h;cases h
     ·rename_i h
      cases h
      split at he
      ·cases hx with |cons h1 sA=>
       cases h1
       cases hq:gf wF _ _ with
       |none=>rw[hq]at he;cases he
       |some q=>
        have ih:=s7 b d w A fs (o+1) wF _ _ _ q lm hq sA LR
        intro g hg
        rcases List.mem_cons.1 hg with hg |hg
        ·subst hg
         refine⟨hn,_,uk _ _ hu rfl (by rw[a0];rfl),?_⟩
         rw[Instr.checkKey];simp[bj hu]
        ·exact ih g hg
      ·cases he
     ·cases he
   ·cases hf
  ·cases hf
theorem kD{kt:TypeId}{k:AV}{kv:Value}(b:Bool)(w:World)(ho:qK P kt k=true)(hk:VR E k kv):(Instr.checkKey b 10000 kt kv).run P w=.ok () w:=by
 rw[show(10000:Nat)=9998+1+1 from rfl]
 unfold qK jq at ho
 split at ho
 ·split at ho
  ·rename_i hs
   cases hk
   rw[Instr.checkKey]
   simp[bj (xQ hs)]
  ·cases ho
 ·split at ho
  ·rename_i hs
   obtain⟨kk,kz⟩:=xR hs.1
   cases hk
   rw[Instr.checkKey]
   simp[bj kz]
  ·cases ho
 ·cases hf:k_ P kt with
  |none=>rw[hf]at ho;cases ho
  |some ks=>
   rw[hf]at ho
   simp only[Option.bind_some]at ho
   split at ho
   ·obtain⟨fs,hu,jR,_⟩:=BE hf
    obtain⟨r,hr⟩:=Option.isSome_iff_exists.1 ho
    cases hk with
    | @agg l vs hk=>
    have key:=s7 b 9998 w vs.toArray fs.toList 0 ks _ _ vs r jR hr hk (fun i=>by simp)
    rw[Instr.checkKey]
    simp only[Sem.run_bind,bj hu,Result.andThen_ok]
    rw[<-Array.forIn_toList]
    generalize fs.toList=L at key
    clear jR hu hr hf
    induction L with
    |nil=>simp
    |cons f L ih=>
     obtain⟨hn,v,p1,p2⟩:=key f (by simp)
     simp only[List.forIn_cons,Sem.run_bind,hn,ne_eq,not_false_eq_true,zV,Result.andThen_ok,p1,p2,Sem.run_pure]
     exact ih (fun y hy=>key y (by simp[hy]))
   ·cases ho
 ·cases ho
def mapOf(P:Program)(t:TypeId):Option (TypeId×TypeId):=match P.underlying t with |some (.map k e)=>some (k,e) |_=>none
theorem xN{t k e:TypeId}(h:mapOf P t=some (k,e)):P.underlying t=some (.map k e):=by
 unfold mapOf at h;split at h<;>simp_all
def nK(P:Program)(t:TypeId):Option AV:=(P.info? t).bind fun i=>i.zero.map lift
theorem ID{t:TypeId}{z:AV}(h:nK P t=some z):∃v,(∀w,(zeroValue t).run P w=.ok v w)/\∀E,VR E z v:=by
 unfold nK at h
 cases hi:P.info? t with
 |none=>rw[hi]at h;cases h
 |some i=>
  rw[hi]at h
  simp only[Option.bind_some]at h
  cases hz:i.zero with
  |none=>rw[hz]at h;cases h
  |some v=>
   rw[hz]at h
   simp only[yB,zQ]at h
   subst h
   refine⟨v,fun w=>?_,fun E=>VR.lift E v⟩
   have:(typeInfo t).run P w=.ok i w:=by simp[typeInfo,Sem.run,hi]
   simp only[zeroValue,Sem.run_bind,this,Result.andThen_ok,hz,Sem.run_pure]
def xO(P:Program)(d:TypeId×TypeId)(l:List (AV×AV))(k:AV)(ok:Bool)(K:AV->Prop):Prop:=
 qK P d.1 k=true/\∃r z,me P d.1 k l 0=some r/\nK P d.2=some z /\
  match r with
  |some (_,v)=>K (if ok then .cP [v,.b true] else v)
  |none=>K (if ok then .cP [z,.b false] else z)
def fC(P:Program)(d:Option (TypeId×TypeId))(x k:AV)(ok:Bool)(h:AH)(K:AV->Option Nat->Prop):Prop:=
 match d,x with
 |some d,.mp id=>∃o l,(h.obj id=some o/\o.kind=.map l)/\xO P d l k ok (K · (some id))
 |some d,.sc (.map none)=>xO P d [] k ok (K · none)
 |_,_=>False
theorem cu.pair{a b:AV}{v u:Value}(h1:VR E a v)(h2:VR E b u):VR E (.cP [a,b]) (.tuple #[v,u]):=.cP (vs:=[v,u]) (.cons h1 (.cons h2 .nil))
theorem C4{t k0 e0:TypeId}{k:AV}{xv kv:Value}{ok:Bool}{l:List (AV×AV)}{es:Array MapEntry}{K:AV->Prop}(hu:P.underlying t=some (.map k0 e0))(hk:VR E k kv)(hm:MR E l es.toList)(h:xO P (k0,e0) l k ok K) :
  ∃av u,VR E av u/\K av/\∀w,(match xv with |.map none=>es=#[] |.map (some r)=>∃c,w.heap[r]?=some (.map es c) |_=>False)->(Instr.lookup t xv kv ok).run P w=.ok u w:=by
 obtain⟨h1,r,z,h2,h3,h4⟩:=h
 obtain⟨zv,hz,Qg⟩:=ID h3
 obtain⟨q,q1,q2⟩:=yW h1 hk hm h2
 have hg:∀(w:World)(r:Nat)(c:Nat),w.heap[r]?=some (.map es c)->(getObj r).run P w=.ok (.map es c) w:=fun w r c hc=>by simp[getObj,Sem.run,hc]
 cases r with
 |none=>
  cases q with
  |some _=>exact q1.elim
  |none=>
   refine⟨_,(if ok then Value.tuple #[zv,.bool false] else zv),?_,h4,fun w hw=>?_⟩
   ·cases ok
    ·exact Qg E
    ·exact cu.pair (Qg E) (.sc _)
   split at hw
   ·subst hw
    simp only[Instr.lookup,Sem.run_bind,bj hu,Result.andThen_ok,Sem.run_pure,kD _ w h1 hk,q2 w,hz w]
   ·obtain⟨c,hc⟩:=hw
    simp only[Instr.lookup,Sem.run_bind,bj hu,Result.andThen_ok,Sem.run_pure,hg w _ c hc,kD _ w h1 hk,q2 w,hz w]
   ·exact hw.elim
 |some x=>
  obtain⟨i,v⟩:=x
  cases q with
  |none=>exact q1.elim
  |some y=>
   obtain⟨j,u⟩:=y
   obtain⟨_,hv,_⟩:=q1
   refine⟨_,(if ok then Value.tuple #[u,.bool true] else u),?_,h4,fun w hw=>?_⟩
   ·cases ok
    ·exact hv
    ·exact cu.pair hv (.sc _)
   split at hw
   ·subst hw
    simp only[Instr.lookup,Sem.run_bind,bj hu,Result.andThen_ok,Sem.run_pure,kD _ w h1 hk,q2 w]
   ·obtain⟨c,hc⟩:=hw
    simp only[Instr.lookup,Sem.run_bind,bj hu,Result.andThen_ok,Sem.run_pure,hg w _ c hc,kD _ w h1 hk,q2 w]
   ·exact hw.elim
theorem NN{t:TypeId}{x k:AV}{xv kv:Value}{ok:Bool}{h:AH}{w:World}{K:AV->Option Nat->Prop}(hr:Rel E h w)(hx:VR E x xv)(hk:VR E k kv)(hp:fC P (mapOf P t) x k ok h K) :
  ∃av u d,VR E av u/\K av d/\(∀id,d=some id->∃B,E id=some B)/\∀w',(∀id B,d=some id->E id=some B->w'.heap[B.b]?=w.heap[B.b]?)->(Instr.lookup t xv kv ok).run P w'=.ok u w':=by
 unfold fC at hp
 split at hp
 ·rename_i d id hd
  obtain⟨o,l,⟨ho,oM⟩,hp⟩:=hp
  obtain⟨k0,e0⟩:=d
  obtain⟨B,hB,hO⟩:=hr.obj id o ho
  unfold OR at hO
  rw[oM]at hO
  obtain⟨_,es,c,hw,hm⟩:=hO
  cases hx with |mp cO=>
  rw[hB]at cO;cases cO
  obtain⟨av,u,a1,a2,a3⟩:=C4 (xv:=.map (some B.b)) (xN hd) hk hm hp
  exact⟨av,u,some id,a1,a2,fun i hi=>by cases hi;exact⟨B,hB⟩,fun w' iW=>a3 w' ⟨c,by rw[iW id B rfl hB];exact hw⟩⟩
 ·rename_i d hd
  obtain⟨k0,e0⟩:=d
  cases hx
  obtain⟨av,u,a1,a2,a3⟩:=C4 (xv:=.map none) (es:=#[]) (xN hd) hk .nil hp
  exact⟨av,u,none,a1,a2,fun i hi=>by (cases hi),fun w' _=>a3 w' rfl⟩
 ·exact hp.elim
def qq(t:TypeId)(h:AH)(K:AV->AH->Prop):Prop:=K (.mp h.next) (h.alloc { cells:=[],sz:=0,ty:=t,kind:=.map [] })
theorem SA{t:TypeId}{h:AH}{W:Nat->Prop}{w:World}{K:AV->AH->Prop}(hr:Rel E h w)(hp:qq t h K):ES P E h W w (Instr.makeMap t none) K:=by
 refine⟨_,.map (some w.heap.size),_,_,_,Step.GC (o:={ cells:=[],sz:=0,ty:=t,kind:=.map [] }) hr (.map #[] 0) 0 0 (fun _ _ _ hw=>⟨rfl,#[],0,hw,.nil⟩),?_,hp,?_⟩
 ·exact .mp (B:=⟨w.heap.size,0,0,0⟩) (by simp[Env.put])
 ·simp[Instr.makeMap]
def Ux(l:List (AV×AV))(k v:AV):Option (Nat×AV)->List (AV×AV)
 |some (i,_)=>l.set i (k,v)
 |none=>l++[(k,v)]
def dI(P:Program)(d:Option (TypeId×TypeId))(x k v:AV)(h:AH)(W:Nat->Prop)(K:AH->Prop):Prop:=
 match d,x with
 |some d,.mp id=>∃o l r,(W id/\h.obj id=some o/\o.kind=.map l/\o.ro=false)/\qK P d.1 k=true/\me P d.1 k l 0=some r/\K (h.iJ id (.map (Ux l k v r)))
 |_,_=>False
theorem Step.Nd{h:AH}{W:Nat->Prop}{w:World}(hr:Rel E h w){id:Nat}{B:oE}{o:AO}{k':Kind}{ob:Go.Obj}(hW:W id)(ho:h.obj id=some o)(hB:E id=some B)(fc:o.ro=false)
  (hO:∀w',w'.heap[B.b]?=some ob->OR E { o with kind:=k' } B w') :
  Step E h W w E (h.iJ id k') { w with heap:=w.heap.setIfInBounds B.b ob }:=by
 have aJ:B.b<w.heap.size:=by
  obtain⟨B',cO,hO⟩:=hr.obj id o ho
  rw[hB]at cO;cases cO
  exact hO.lt
 have gC:∀i,(h.iJ id k').obj i=if i=id then(h.obj i).map (fun o=>{ o with kind:=k' }) else h.obj i:=fun _=>rfl
 have Fz:∀k,k≠B.b->(w.heap.setIfInBounds B.b ob)[k]?=w.heap[k]?:=fun k hk=>Array.getElem?_setIfInBounds_ne (fun e=>hk e.symm)
 refine⟨fun _ _ h=>h,⟨?_,?_,hr.fresh⟩,zU _,?_,?_,rfl,rfl,rfl,by simp,?_,?_,?_⟩
 ·intro i o' dy
  rw[gC]at dy
  by_cases e:i=id
  ·subst e
   rw[zX rfl,ho]at dy
   cases dy
   exact⟨B,hB,hO _ (by simp[aJ])⟩
  ·rw[zW e]at dy
   obtain⟨B',cO,hO⟩:=hr.obj i o' dy
   exact⟨B',cO,hO.mono (fun _ _ h=>h) (Fz _ fun p_=>(hr.inj i id o' o B' B dy ho cO hB p_).elim e (fun hh=>by rw[fc]at hh;cases hh.2))⟩
 ·intro i j oi oj Bi Bj h1 h2
  rw[gC]at h1 h2
  have nR:∀i oi,(if i=id then(h.obj i).map (fun o=>({ o with kind:=k' }:AO)) else h.obj i)=some oi->∃o',h.obj i=some o'/\o'.ro=oi.ro:=by
   intro i oi hi
   split at hi
   ·cases ho:h.obj i with
    |none=>rw[ho]at hi;cases hi
    |some o'=>rw[ho]at hi;simp only[yB,zQ]at hi;subst hi;exact⟨o',rfl,rfl⟩
   ·exact⟨oi,hi,rfl⟩
  obtain⟨a,ha,ra⟩:=nR i oi h1
  obtain⟨b,hb,rb⟩:=nR j oj h2
  rw[<-ra,<-rb]
  exact hr.inj i j a b Bi Bj ha hb
 ·intro i _ hm
  rw[gC,zW (fun(e:i=id)=>hm (e ▸ hW))]
 ·intro i _ h0
  rw[gC,h0];simp
 ·intro b _ kZ
  exact Fz _ (fun p_=>kZ id B o hW ho fc hB p_.symm)
 ·intro i C oi hi _ _ ll
  rw[gC]at hi
  have:h.obj i≠none:=fun h0=>by rw[h0]at hi;simp at hi
  have:=AH.K3 this
  omega
 ·intro i o1 o2 dP eB oQ
  rw[gC]at eB
  split at eB
  ·rw[dP]at eB;simp only[yB,zQ]at eB;subst eB;exact oQ
  ·rw[dP]at eB;cases eB;exact oQ
theorem MR.push{k v:AV}{e:MapEntry}(h1:VR E k e.key)(h2:VR E v e.val):∀{l:List (AV×AV)}{es:List MapEntry},MR E l es->MR E (l++[(k,v)]) (es++[e])
 |_,_,.nil=>.cons h1 h2 .nil
 |_,_,.cons a b c=>.cons a b (MR.push h1 h2 c)
theorem MR.set{k v:AV}{kv u:Value}(h1:VR E k kv)(h2:VR E v u):∀{l:List (AV×AV)}{es:List MapEntry}{i:Nat},MR E l es->MR E (l.set i (k,v)) (es.modify i fun e=>{ e with key:=kv,val:=u })
 |_,_,_,.nil=>by simpa using MR.nil
 |_,_,0,.cons a b c=>by
  simp only[List.set_cons_zero,List.modify_zero_cons]
  exact .cons h1 h2 c
 |_,_,i+1,.cons a b c=>by
  simp only[List.set_cons_succ,List.modify_succ_cons]
  exact .cons a b (MR.set h1 h2 c)
theorem Gd{t:TypeId}{x k v:AV}{xv kv u:Value}{h:AH}{W:Nat->Prop}{w:World}{K:AH->Prop}(hr:Rel E h w)(hx:VR E x xv)(hk:VR E k kv)(hv:VR E v u)(hp:dI P (mapOf P t) x k v h W K) :
  ∃E' h' w',Step E h W w E' h' w'/\K h'/\(Instr.mapUpdate t xv kv u).run P w=.ok () w':=by
 unfold dI at hp
 split at hp
 ·rename_i d id hd
  obtain⟨o,l,r,⟨hW,ho,oM,fc⟩,Vr,hf,hp⟩:=hp
  obtain⟨k0,e0⟩:=d
  obtain⟨B,hB,hO⟩:=hr.obj id o ho
  unfold OR at hO
  rw[oM]at hO
  obtain⟨fN,es,c,hw,hm⟩:=hO
  cases hx with |mp cO=>
  rw[hB]at cO;cases cO
  obtain⟨q,q1,q2⟩:=yW Vr hk hm hf
  have hg:(getObj B.b).run P w=.ok (.map es c) w:=by simp[getObj,Sem.run,hw]
  have hs:∀ob,(setObj B.b ob).run P w=.ok () { w with heap:=w.heap.setIfInBounds B.b ob }:=fun ob=>by simp[setObj,Sem.run,hw]
  cases r with
  |none=>
   cases q with
   |some _=>exact q1.elim
   |none=>
    refine⟨E,_,_,Step.Nd (k':=.map (l++[(k,v)])) (ob:=.map (es.push { key:=kv,val:=u,born:=c }) (c+1)) hr hW ho hB fc fun w' iW=>⟨fN,_,_,iW,?_⟩,hp,?_⟩
    ·show MR E (l++[(k,v)]) (es.push _).toList
     rw[Array.toList_push]
     exact hm.push hk hv
    ·simp only[Instr.mapUpdate,Sem.run_bind,bj (xN hd),Result.andThen_ok,hg,kD _ w Vr hk,q2 w,hs]
  |some y=>
   obtain⟨i,a⟩:=y
   cases q with
   |none=>exact q1.elim
   |some z=>
    obtain⟨j,b⟩:=z
    obtain⟨rfl,_,_,e,he,_,hek,XS⟩:=q1
    rw[Nat.sub_zero]at he
    refine⟨E,_,_,Step.Nd (k':=.map (l.set i (k,v))) (ob:=.map (es.modify i fun e=>{ e with key:=kv,val:=u }) c) hr hW ho hB fc fun w' iW=>⟨fN,_,_,iW,?_⟩,hp,?_⟩
    ·show MR E (l.set i (k,v)) (es.modify i _).toList
     rw[Array.toList_modify]
     exact hm.set hk hv
    ·have oN:es[i]?=some e:=by rw[<-Array.getElem?_toList];exact he
     have hb:Instr.sameBits 10000 (((es[i]?).map (·.key)).getD kv) kv=true:=by rw[oN];exact XS
     simp only[Instr.mapUpdate,Sem.run_bind,bj (xN hd),Result.andThen_ok,hg,kD _ w Vr hk,q2 w,Instr.keyThatStays,hb,zV,Sem.run_pure,hs]
 ·exact hp.elim
end
section
variable {P:Program} {E:Env}
def bZ(b:Option (List Value×(List (Nat×Nat) ⊕ Nat)))(parts:List (Nat×AV))(K:AV->Prop):Prop:=
 match b with
 |some (z,.inl pl)=>∃cells,dU (fun i=>pl[i]?) (z.map .sc) parts=some cells/\K (.agg cells)
 |some (z,.inr n)=>∃cells,dU (fun i=>some (i*n,n)) (z.map .sc) parts=some cells/\K (.agg cells)
 |none=>False
theorem vl{α β:Type}{g:α->Sem β}{f:α->Option β}(hg:∀a b,f a=some b->∀w,(g a).run P w=.ok b w) :
  ∀(l:List α)(r:List β),l.mapM f=some r->∀w,(l.mapM g).run P w=.ok r w
 |[],r,h,w=>by simp only[List.mapM_nil]at h ⊢;cases h;rfl
 |a::l,r,h,w=>by
  simp only[List.mapM_cons]at h ⊢
  cases ha:f a with
  |none=>rw[ha]at h;cases h
  |some b=>
   cases hl:l.mapM f with
   |none=>rw[ha,hl]at h;cases h
   |some r'=>
    rw[ha,hl]at h
    cases h
    simp[hg a b ha,vl hg l r' hl]
theorem R4{K:AV->Prop}{t:TypeId}{parts:List (Nat×AV)}{pv:Array (Nat×Value)}(tF:F2 (fun a b=>a.1=b.1/\VR E a.2 b.2) parts pv.toList)(hp:bZ (Eg P t) parts K) :
  PS P E (Instr.build t pv) K:=by
 have PB:∀z,zeroOf P t=some z->∃v:Value,v.cells.toList=z/\cu E (z.map .sc) v.cells.toList/\∀w,(zeroValue t).run P w=.ok v w:=by
  intro z hz
  obtain⟨v,hv,fR⟩:=qC hz
  exact⟨v,hv,by rw[hv];exact cu.lift E z,fR⟩
 unfold bZ at hp
 split at hp
 ·rename_i z pl hb
  obtain⟨cells,hf,hp⟩:=hp
  unfold Eg at hb
  split at hb
  ·rename_i z' fs hz hu
   cases hm:fs.toList.mapM fun f=>(eM P f.type).map fun n=>(f.offset,n) with
   |none=>rw[hm]at hb;cases hb
   |some l=>
    rw[hm]at hb
    simp only[yB,zQ,Prod.mk.injEq,Sum.inl.injEq]at hb
    obtain⟨rfl,rfl⟩:=hb
    obtain⟨v,hv,gN,fR⟩:=PB _ hz
    obtain⟨pA,jy,NX⟩:=xV (place:=fun i:Nat=>l[i]?) parts pv.toList _ cells v.cells tF gN hf
    refine⟨_,.agg pA,by simpa using VR.agg NX,hp,fun w=>?_⟩
    have hmr:∀w,(fs.mapM fun f=>(do pure (f.offset,<-sizeOf f.type):Sem (Nat×Nat))).run P w=.ok l.toArray w:=by
     intro w
     rw[Array.mapM_eq_mapM_toList]
     have:=vl (P:=P) (g:=fun f:Field=>(do pure (f.offset,<-sizeOf f.type):Sem (Nat×Nat))) (f:=fun f=>(eM P f.type).map fun n=>(f.offset,n)) (by
      intro f b QA w
      cases hs:eM P f.type with
      |none=>rw[hs]at QA;cases QA
      |some n=>rw[hs]at QA;cases QA;simp[hF hs]) fs.toList l hm w
     rw[Sem.run_map,this];rfl
    have jQ:(fun i:Nat=>l.toArray[i]?)=fun i:Nat=>l[i]?:=by funext i;simp
    simp only[Instr.build,Sem.run_bind,fR,Result.andThen_ok,bj hu,hmr,jQ,jy,Sem.run_pure]
  ·cases hs:eM P _<;>rw[hs]at hb<;>simp at hb
  ·cases hb
 ·rename_i z n hb
  obtain⟨cells,hf,hp⟩:=hp
  unfold Eg at hb
  split at hb
  ·rename_i z' fs hz hu
   cases hm:fs.toList.mapM fun f=>(eM P f.type).map fun n=>(f.offset,n)<;>rw[hm]at hb<;>simp at hb
  ·rename_i z' k e hz hu
   cases hs:eM P e with
   |none=>rw[hs]at hb;cases hb
   |some n'=>
    rw[hs]at hb
    simp only[yB,zQ,Prod.mk.injEq,Sum.inr.injEq]at hb
    obtain⟨rfl,rfl⟩:=hb
    obtain⟨v,hv,gN,fR⟩:=PB _ hz
    obtain⟨pA,jy,NX⟩:=xV (place:=fun i=>some (i*n',n')) parts pv.toList _ cells v.cells tF gN hf
    refine⟨_,.agg pA,by simpa using VR.agg NX,hp,fun w=>?_⟩
    simp only[Instr.build,Sem.run_bind,fR,Result.andThen_ok,bj hu,hF hs,jy,Sem.run_pure]
  ·cases hb
 ·exact hp.elim
structure eT where
 f:Fn
 cap:List AV
 args:List AV
structure St where
 tm:Nat->AV
 ds:List eT
def DR(E:Env)(d:eT)(v:Deferred):Prop:=∃vs ws,v.target=.fn d.f (Array.mk vs)/\v.args=Array.mk ws/\cu E d.cap vs/\cu E d.args ws
inductive BU (E:Env):List eT->List Deferred->Prop
 |nil:BU E [] []
 |cons {d:eT} {v:Deferred} {l:List eT} {m:List Deferred}:DR E d v->BU E l m->BU E (d::l) (v::m)
structure AR (E:Env) (N:Nat) (s:St) (a:Act):Prop where
 size:a.tmps.size=N
 tm:∀i,VR E (s.tm i) (a.tmps.getD i undef)
 ds:BU E s.ds a.defers
theorem BU.mono{E E':Env}(hE:E.le E'){l:List eT}{m:List Deferred}(h:BU E l m):BU E' l m:=by
 induction h with
 |nil=>exact .nil
 |cons h _ ih=>
  obtain⟨vs,ws,a,b,c,d⟩:=h
  exact .cons ⟨vs,ws,a,b,c.mono hE,d.mono hE⟩ ih
theorem AR.mono{E E':Env}(hE:E.le E'){N:Nat}{s:St}{a:Act}(h:AR E N s a):AR E' N s a:=
 ⟨h.size,fun i=>(h.tm i).mono hE,h.ds.mono hE⟩
def eP(tm:Nat->AV)(d:Nat)(v:AV):Nat->AV:=fun i=>if i=d then v else tm i
def St.put(s:St)(N:Nat)(dst:Option Nat)(v:AV):St:=
 match dst with
 |none=>s
 |some d=>if d<N then{ s with tm:=eP s.tm d v } else s
theorem AR.put{N:Nat}{s:St}{a:Act}(h:AR E N s a)(dst:Option Nat){v:AV}{u:Value}(hv:VR E v u):AR E N (s.put N dst v) (a.put dst u):=by
 cases dst with
 |none=>exact h
 |some d=>
  simp only[St.put,Act.put]
  split
  ·rename_i hd
   refine⟨by simp[h.size],fun i=>?_,h.ds⟩
   simp only[eP]
   by_cases e:i=d
   ·subst e
    have hs:=h.size
    simp only[zV,Array.getD_eq_getD_getElem?,Array.getElem?_setIfInBounds,hs,hd,Option.getD_some]
    exact hv
   ·have:=h.tm i
    simp only[zW e]
    simpa[Array.getD_eq_getD_getElem?,Array.getElem?_setIfInBounds_ne (Ne.symm e)] using this
  ·rename_i hd
   have hs:=h.size
   refine⟨by simp[h.size],fun i=>?_,h.ds⟩
   have:a.tmps.setIfInBounds d u=a.tmps:=by
    unfold Array.setIfInBounds
    rw[dif_neg (by omega)]
   rw[this];exact h.tm i
def lx(s:St):Operand->AV
 |.tmp t=>s.tm t
 |.const v=>lift v
 |.global g=>.sc (.pointer (some ⟨g,0,none⟩))
 |.func f=>.fn (.func f) [] []
theorem AR.eval{N:Nat}{s:St}{a:Act}(h:AR E N s a)(x:Operand):VR E (lx s x) (a.eval x):=by
 cases x with
 |tmp t=>exact h.tm t
 |const v=>exact VR.lift E v
 |global g=>exact .sc _
 |func f=>exact .fn (vs:=[]) (ws:=[]) .nil .nil
theorem AR.BF{N:Nat}{s:St}{a:Act}(h:AR E N s a):∀l:List Operand,cu E (l.map (lx s)) (l.map a.eval)
 |[]=>.nil
 |x::l=>.cons (h.eval x) (AR.BF h l)
theorem AR.parts{N:Nat}{s:St}{a:Act}(h:AR E N s a):∀l:List (Nat×Operand),
  F2 (fun a b=>a.1=b.1/\VR E a.2 b.2) (l.map fun x=>(x.1,lx s x.2)) (l.map fun x=>(x.1,a.eval x.2))
 |[]=>.nil
 |x::l=>.cons ⟨rfl,h.eval x.2⟩ (AR.parts h l)
def Fh(c:Call):Option (Operand×TypeId):=
 match c.callee,c.args.toList,c.argTypes.toList with
 |.builtin .len,[x],[t]=>some (x,t)
 |_,_,_=>none
def IW(c:Call):Option (Bool×Operand×Operand):=
 match c.callee,c.args.toList with
 |.builtin .min,[x,y]=>some (true,x,y)
 |.builtin .max,[x,y]=>some (false,x,y)
 |_,_=>none
def su:Op->Bool
 |.move _ |.assign _ |.pick .. |.nilCheck _ |.fieldAddr .. |.indexAddr .. |.index .. |.field .. |.slice .. |.extract .. |.binOp .. |.unOp .. |.convert ..
 |.makeInterface .. |.makeFunc .. |.typeAssert .. |.build .. |.load .. |.lookup ..=>true
 |.call c=>(Fh c).isSome||(IW c).isSome
 |_=>false
def a_(x:AV):Bool:=match x with |.sc (.string _)=>true |_=>false
def OP:Operand->Bool
 |.const _=>true
 |_=>false
def qOp(P:Program)(op:Op)(ρ:Operand->AV)(h:AH)(K:AV->Option Nat->Prop):Prop:=
 match op with
 |.move x |.assign x=>K (ρ x) none
 |.pick c a b=>aT (ρ c) (ρ a) (ρ b) (K · none)
 |.nilCheck x=>aY (ρ x) (K · none)
 |.fieldAddr s x f=>ah (OA P s f) (ρ x) (K · none)
 |.indexAddr t x i=>cj (Jb P t) (ρ x) (ρ i) (K · none)
 |.index t x i=>rm (gS P t) (ρ x) (ρ i) (K · none)
 |.field t x f=>lL (Jw P t f) (ρ x) (K · none)
 |.slice t x lo hi none=>match gS P t with
  |true=>wj (ρ x) (lo.map ρ) (hi.map ρ) (K · none)
  |false=>sU (IG P t) (ρ x) (lo.map ρ) (hi.map ρ) h (K · none)
 |.extract x k=>cf (ρ x) k (K · none)
 |.binOp op t x y _=>ag P op t (OP x||OP y) (ρ x) (ρ y) (K · none)
 |.unOp op _ x=>gM op (ρ x) (K · none)
 |.convert s d x=>match JF P s d with
  |true=>zu (ρ x) h fun v id=>K v (some id)
  |false=>match (P.underlying s).isSome with
   |true=>qi (tD P d) (ρ x) (K · none)
   |false=>False
 |.makeInterface t x=>rl (hZ P t) t (ρ x) (K · none)
 |.makeFunc fn first cap=>K (.fn fn (first.toList.map ρ) (cap.toList.map ρ)) none
 |.typeAssert x _ T ok=>CT (hZ P T) T ok (ρ x) (K · none)
 |.build t parts=>bZ (Eg P t) (parts.toList.map fun x=>(x.1,ρ x.2)) (K · none)
 |.load t a=>al (ke P t) (eM P t) (ρ a) h fun v id=>K v (some id)
 |.lookup t m x ok=>fC P (mapOf P t) (ρ m) (ρ x) ok h K
 |.call c=>match Fh c with
  |some (x,t)=>match gS P t,j3 P t with
   |true,_=>a_ (ρ x)=true/\bO (ρ x) (K · none)
   |false,true=>a_ (ρ x)=false/\bO (ρ x) (K · none)
   |_,_=>False
  |none=>match IW c with
   |some (mn,x,y)=>vi mn (ρ x) (ρ y) (K · none)
   |none=>False
 |_=>False
def QS(P:Program)(E:Env)(w:World)(s:Sem Next)(K:AV->Option Nat->Prop):Prop:=
 ∃av u d,VR E av u/\K av d/\(∀id,d=some id->∃B,E id=some B)/\∀w',(∀id B,d=some id->E id=some B->w'.heap[B.b]?=w.heap[B.b]?)->s.run P w'=.ok (.value u) w'
theorem QS.mc{w:World}{s:Sem Value}{K:AV->Option Nat->Prop}(h:PS P E s (K · none)):QS P E w (do pure (.value (<-s))) K:=by
 obtain⟨av,u,h1,h2,h3⟩:=h
 exact⟨av,u,none,h1,h2,by simp,fun w' _=>by simp[h3 w']⟩
theorem Kq{N:Nat}{s:St}{a:Act}{h:AH}{w:World}{K:AV->Option Nat->Prop}(o:Oper)(hr:Rel E h w)(ha:AR E N s a)(hp:qOp P o.op (lx s) h K):QS P E w (execOp a.eval o) K:=by
 obtain⟨dst,op,ty,pos,after,guard⟩:=o
 simp only at hp
 have parts:∀ps:Array (Nat×Operand),F2 (fun a b=>a.1=b.1/\VR E a.2 b.2) (ps.toList.map fun x=>(x.1,lx s x.2)) (ps.map fun(i,x)=>(i,a.eval x)).toList:=by
  intro ps
  simpa using ha.parts ps.toList
 cases op<;>simp only[qOp]at hp<;>try exact hp.elim
 case move x=>exact⟨_,_,none,ha.eval x,hp,by simp,fun w' _=>by simp[execOp]⟩
 case assign x=>exact⟨_,_,none,ha.eval x,hp,by simp,fun w' _=>by simp[execOp]⟩
 case pick c x y=>
  obtain⟨av,u,h1,h2,h3⟩:=Nu (P:=P) (ha.eval c) (ha.eval x) (ha.eval y) hp
  refine⟨av,u,none,h1,h2,by simp,fun w' _=>?_⟩
  have:=h3 w'
  simp only[execOp,Sem.run_bind]at this ⊢
  cases hb:(asBool (a.eval c)).run P w' with
  |ok t EC=>rw[hb]at this;simp only[Result.andThen_ok,Sem.run_pure]at this ⊢;injection this with e1 e2;rw[e1,e2]
  |halt _ _=>rw[hb]at this;cases this
 case nilCheck x=>
  have hx:=ha.eval x
  unfold aY at hp
  split at hp
  ·rename_i i o he
   rw[he]at hx
   generalize hv:a.eval x=v at hx
   cases hx with
   |ptr hB=>exact⟨_,_,none,.ptr hB,hp,by simp,fun w' _=>by simp[execOp,hv]⟩
  ·rename_i f fs cs he
   rw[he]at hx
   generalize hv:a.eval x=v at hx
   cases hx with
   |fn h1 h2=>exact⟨_,_,none,.fn h1 h2,hp,by simp,fun w' _=>by simp[execOp,hv]⟩
  ·rename_i t v he
   rw[he]at hx
   generalize hv:a.eval x=v at hx
   cases hx with
   |kx h1=>exact⟨_,_,none,.kx h1,hp,by simp,fun w' _=>by simp[execOp,hv]⟩
  ·exact hp.elim
 case fieldAddr t x f=>exact QS.mc (RZ (ha.eval x) hp)
 case indexAddr t x i=>exact QS.mc (RX (ha.eval x) (ha.eval i) hp)
 case index t x i=>exact QS.mc (RW (ha.eval x) (ha.eval i) hp)
 case field t x f=>exact QS.mc (R0 (ha.eval x) hp)
 case extract x k=>exact QS.mc (R1 (ha.eval x) hp)
 case binOp op t x y yt=>exact QS.mc (R5 (xo:=x) (yo:=y) (ha.eval x) (ha.eval y) (by cases x<;>cases y<;>simp[OP]) hp)
 case unOp op t x=>exact QS.mc (T6 (ha.eval x) hp)
 case makeInterface t x=>exact QS.mc (RU (ha.eval x) hp)
 case typeAssert x xt T ok=>exact QS.mc (T7 (ha.eval x) hp)
 case build t ps=>exact QS.mc (R4 (parts ps) hp)
 case makeFunc fn first cap=>
  refine⟨_,.func fn (first.map a.eval) (cap.map a.eval),none,?_,hp,by simp,fun w' _=>by simp[execOp,Instr.makeFunc]⟩
  have h1:=VR.fn (f:=fn) (ha.BF first.toList) (ha.BF cap.toList)
  have e1:(List.map a.eval first.toList).toArray=first.map a.eval:=by apply Array.ext';simp
  have e2:(List.map a.eval cap.toList).toArray=cap.map a.eval:=by apply Array.ext';simp
  rw[e1,e2]at h1
  exact h1
 case convert t d x=>
  split at hp
  ·rename_i hb
   obtain⟨av,u,id,B,h1,h2,h3,h4⟩:=R6 hr (ha.eval x) hb hp
   refine⟨av,u,some id,h1,h2,fun pV he=>by cases he;exact⟨B,h3⟩,fun w' hw=>?_⟩
   have:=h4 w' (hw id B rfl h3)
   simp[execOp,this]
  ·split at hp
   ·rename_i hs
    exact QS.mc (R3 (ha.eval x) hs hp)
   ·exact hp.elim
 case slice t x lo hi mx=>
  have vo:∀y:Option Operand,GL E (y.map (lx s)) (y.map a.eval):=by
   intro y
   cases y with
   |none=>exact trivial
   |some y=>exact ha.eval y
  cases mx with
  |some _=>exact hp.elim
  |none=>
   simp only at hp
   split at hp
   ·rename_i ht
    exact QS.mc (RP (ha.eval x) (vo lo) (vo hi) ht hp)
   ·exact QS.mc (RQ hr (ha.eval x) (vo lo) (vo hi) hp)
 case load t x=>
  obtain⟨av,u,id,B,h1,h2,h3,h4⟩:=Ld hr (ha.eval x) hp
  refine⟨av,u,some id,h1,h2,fun pV he=>by cases he;exact⟨B,h3⟩,fun w' hw=>?_⟩
  have:=h4 w' (hw id B rfl h3)
  simp[execOp,this]
 case lookup t m x ok=>
  obtain⟨av,u,d,h1,h2,h3,h4⟩:=NN hr (ha.eval m) (ha.eval x) hp
  exact⟨av,u,d,h1,h2,h3,fun w' hw=>by simp[execOp,h4 w' hw]⟩
 case call c=>
  split at hp
  ·rename_i x t hc
   have gP:c={ callee:=.builtin .len,args:=#[x],argTypes:=#[t] }:=by
    unfold Fh at hc
    split at hc
    ·rename_i h1 h2 h3
     cases hc
     obtain⟨callee,args,argTypes⟩:=c
     simp only at h1 h2 h3
     subst h1
     congr 1
     ·exact Array.ext' h2
     ·exact Array.ext' h3
    ·cases hc
   subst gP
   have fin:(gS P t||j3 P t)=true->(gS P t=true↔∃q,lx s x=.sc (.string q))->bO (lx s x) (K · none)->QS P E w (execOp a.eval ⟨dst,.call { callee:=.builtin .len,args:=#[x],argTypes:=#[t] },ty,pos,after,guard⟩) K:=by
    intro h1 h2 h3
    obtain⟨av,u,h4,h5,h6⟩:=RV (P:=P) (ty:=ty) (ha.eval x) h1 h2 h3
    refine⟨av,u,none,h4,h5,by simp,fun w' _=>?_⟩
    have:=h6 w'
    simp[execOp,resolve,invoke,builtin,this]
   have sa:a_ (lx s x)=true↔∃q,lx s x=.sc (.string q):=by
    unfold a_
    split
    ·rename_i q he;simp[he]
    ·rename_i b7;constructor
     ·intro h;cases h
     ·rintro⟨q,hq⟩;exact absurd hq (b7 q)
   split at hp
   ·rename_i h1
    exact fin (by simp[h1]) (by rw[h1,<-sa,hp.1]) hp.2
   ·rename_i h1 h2
    exact fin (by simp[h1,h2]) (by rw[h1,<-sa,hp.1]) hp.2
   ·exact hp.elim
  ·split at hp
   ·rename_i mn x y hc
    have gP:∃ts,c={ callee:=.builtin (if mn then .min else .max),args:=#[x,y],argTypes:=ts }:=by
     unfold IW at hc
     split at hc
     ·rename_i h1 h2
      cases hc
      obtain⟨callee,args,argTypes⟩:=c
      simp only at h1 h2
      subst h1
      exact⟨argTypes,by congr 1;exact Array.ext' h2⟩
     ·rename_i h1 h2
      cases hc
      obtain⟨callee,args,argTypes⟩:=c
      simp only at h1 h2
      subst h1
      exact⟨argTypes,by congr 1;exact Array.ext' h2⟩
     ·cases hc
    obtain⟨ts,rfl⟩:=gP
    obtain⟨av,u,h4,h5,h6⟩:=T_ (P:=P) (ts:=ts) (ty:=ty) (ha.eval x) (ha.eval y) hp
    refine⟨av,u,none,h4,h5,by simp,fun w' _=>?_⟩
    have:=h6 w'
    cases mn
    ·simp at this
     simp[execOp,resolve,invoke,builtin,this]
    ·simp at this
     simp[execOp,resolve,invoke,builtin,this]
   ·exact hp.elim
end
section
variable {P:Program} {E:Env}
inductive AE where
 |ret (v:AV)
 |b6 (v:AV)
def ER(E:Env):AE->Ending->Prop
 |.ret a,.returned v=>VR E a v
 |.b6 a,.panicked c=>∃v,c=[{ v:=v,recovered:=false }]/\VR E a v
 |_,_=>False
def aB(P:Program)(f:FuncId)(args:List AV)(h:AH)(M:Nat->Prop)(Q:AE->AH->Prop):Prop:=
 ∀E w dR,Rel E h w->cu E args dR->Calls P f dR.toArray w fun e w'=>∃E' h' ae,Step E h M w E' h' w'/\ER E' ae e/\Q ae h'
theorem aB.mono{f:FuncId}{args:List AV}{h:AH}{M:Nat->Prop}{Q Q':AE->AH->Prop}(hc:aB P f args h M Q)
  (hq:∀ae h',h.next<=h'.next->(∀id,id<h.next->¬M id->h'.obj id=h.obj id)->Q ae h'->Q' ae h'):aB P f args h M Q':=
 fun E w dR hr ha=>(hc E w dR hr ha).mono fun _ _ ⟨E',h',ae,hs,he,hQ⟩=>⟨E',h',ae,hs,he,hq _ _ hs.next hs.dr hQ⟩
def xX(P:Program)(f:FuncId):Bool:=
 match P.funcs[f]? with
 | some fn => fn.name != "runtime.NumGoroutine" && fn.body.isSome
 |none=>false
theorem rN{f:FuncId}(h:xX P f=true)(args:Array Value)(w:World):(callFunc f args).run P w=.ok (.enter f args) w:=by
 unfold xX at h
 split at h
 ·rename_i fn hf
  simp only[yC,bne_iff_ne,ne_eq]at h
  obtain⟨h1,h2⟩:=h
  obtain⟨b,hb⟩:=Option.isSome_iff_exists.1 h2
  simp[callFunc,hf,h1,hb]
 ·cases h
def aC(P:Program)(W:Nat->Prop)(f:FuncId)(args:List AV)(h:AH)(K:AV->AH->Prop)(KP:AV->AH->Prop):Prop:=
 ∃M:Nat->Prop,(∀id,M id->id<h.next->W id)/\aB P f args h M fun ae h'=>match ae with |.ret v=>K v h' |.b6 v=>KP v h'
def Wp(P:Program)(t:TypeId):Nat:=
 match P.underlying t with
 |some (.array _ e)=>(eM P e).getD 0
 |_=>(eM P t).getD 0
def MD(c:Call):Option (Operand×Operand×TypeId):=
 match c.callee,c.args.toList,c.argTypes.toList with
 |.builtin .append,[x,y],[t,t']=>if t=t' then some (x,y,t) else none
 |_,_,_=>none
def Ip(c:Call):Option (Operand×Operand×TypeId×TypeId):=
 match c.callee,c.args.toList,c.argTypes.toList with
 |.builtin .append,[x,y],[t,t']=>if t=t' then none else some (x,y,t,t')
 |_,_,_=>none
def Ef(c:Call):Option Operand:=
 match c.callee with
 |.value f=>some f
 |_=>none
abbrev aa:AV:=.sc undef
def GJ(P:Program)(W:Nat->Prop)(x:AV)(args:List AV)(h:AH)(K:AV->AH->Prop)(KP:AV->AH->Prop):Prop:=
 match x with
 |.fn (.func g) first cap=>match xX P g with
  |true=>aC P W g (first++args++cap) h K KP
  |false=>False
 |_=>False
def tg(x:AV)(h:AH)(KP:AV->AH->Prop):Prop:=
 match x with
 |.kx t v=>KP (.kx t v) h
 |_=>False
def JL(x:AV)(args:List AV)(ds:List eT)(K:List eT->Prop):Prop:=
 match x with
 |.fn f first cap=>K (⟨f,cap,first++args⟩::ds)
 |_=>False
def tO(P:Program)(W:Nat->Prop)(op:Op)(ρ:Operand->AV)(ds:List eT)(h:AH)(K:AV->List eT->AH->Prop)(KP:AV->AH->Prop):Prop:=
 match op with
 |.alloc t=>bn (zeroOf P t) (Wp P t) t h fun v h'=>K v ds h'
 |.box t x=>dS (Wp P t) t (ρ x) h fun v h'=>K v ds h'
 |.store t a x=>aE (eM P t) (ρ a) (ρ x) h W fun h'=>K aa ds h'
 |.buildSlice t len parts=>dK (OT P t len) len (parts.toList.map fun x=>(x.1,ρ x.2)) h fun v h'=>K v ds h'
 |.makeSlice t l c=>H_ (NH P t) (ρ l) (ρ c) h fun v h'=>K v ds h'
 |.makeMap t none=>qq t h fun v h'=>K v ds h'
 |.mapUpdate t m k x=>dI P (mapOf P t) (ρ m) (ρ k) (ρ x) h W fun h'=>K aa ds h'
 |.insert t m k x=>dI P (mapOf P t) (ρ m) (ρ k) (ρ x) h W fun h'=>K aa ds h'
 |.range t x=>qa (gS P t) (ρ x) h fun v h'=>K v ds h'
 |.next x true=>sI (ρ x) h W fun v h'=>K v ds h'
 |.panic x=>tg (ρ x) h KP
 |.defer c=>match Ef c with
  |some f=>JL (ρ f) (c.args.toList.map ρ) ds fun nI=>K aa nI h
  |none=>False
 |.call c=>match MD c with
  |some (x,y,t)=>eh (JH P t) (ρ x) (ρ y) h W fun v h'=>K v ds h'
  |none=>match Ip c with
   |some (x,y,t,u)=>qM (Gz P t u) (ρ x) (ρ y) h W fun v h'=>K v ds h'
   |none=>match Ef c with
    |some f=>GJ P W (ρ f) (c.args.toList.map ρ) h (fun v h'=>K v ds h') KP
    |none=>False
 |_=>False
theorem Gb{N:Nat}{s:St}{a:Act}{h:AH}{w:World}{W:Nat->Prop}{K:AV->List eT->AH->Prop}{KP:AV->AH->Prop}(o:Oper)(hr:Rel E h w)(ha:AR E N s a)
  (hp:tO P W o.op (lx s) s.ds h K KP) {next:Act->World->Prop} {Q:Exit->Act->World->Prop}
  (hn:∀v nI E' h' w' a',Step E h W w E' h' w'->AR E' N (({ s with ds:=nI }:St).put N o.dst v) a'->K v nI h'->next a' w')
  (hq:∀v E' h' w' u,Step E h W w E' h' w'->VR E' v u->KP v h'->Q (.panic [{ v:=u,recovered:=false }]) a w'):o.wp P a w next Q:=by
 obtain⟨dst,op,ty,pos,after,guard⟩:=o
 simp only at hp
 unfold Oper.wp
 have es:∀(sv:Sem Value),ES P E h W w sv (fun v h'=>K v s.ds h')->execOp a.eval ⟨dst,op,ty,pos,after,guard⟩=(do pure (.value (<-sv))) ->
   Oper.upon P ⟨dst,op,ty,pos,after,guard⟩ a next Q ((execOp a.eval ⟨dst,op,ty,pos,after,guard⟩).run P w):=by
  intro sv ⟨av,u,E',h',w',h1,h2,h3,h4⟩ he
  rw[he]
  simp only[Sem.run_bind,h4,Result.andThen_ok,Sem.run_pure,Oper.upon_value]
  exact hn av s.ds E' h' w' _ h1 ((ha.mono h1.env).put _ h2) h3
 cases op<;>simp only[tO]at hp<;>try exact hp.elim
 case alloc t=>exact es _ (Mf hr hp) rfl
 case box t x=>exact es _ (SB hr (ha.eval x) hp) rfl
 case store t x y=>
  obtain⟨E',h',w',h1,h2,h3⟩:=Md hr (ha.eval x) (ha.eval y) hp
  simp only[execOp,Sem.run_bind,h3,Result.andThen_ok,Sem.run_pure,Oper.upon_skip]
  exact hn aa s.ds E' h' w' _ h1 ((ha.mono h1.env).put _ (.sc _)) h2
 case buildSlice t len ps=>exact es _ (SF hr (by simpa using ha.parts ps.toList) hp) rfl
 case makeSlice t l c=>exact es _ (Wh hr (ha.eval l) (ha.eval c) hp) rfl
 case makeMap t r=>
  cases r<;>simp only at hp
  exact es _ (SA hr hp) rfl
 case mapUpdate t m k x=>
  obtain⟨E',h',w',h1,h2,h3⟩:=Gd hr (ha.eval m) (ha.eval k) (ha.eval x) hp
  simp only[execOp,Sem.run_bind,h3,Result.andThen_ok,Sem.run_pure,Oper.upon_skip]
  exact hn aa s.ds E' h' w' _ h1 ((ha.mono h1.env).put _ (.sc _)) h2
 case insert t m k x=>
  obtain⟨E',h',w',h1,h2,h3⟩:=Gd hr (ha.eval m) (ha.eval k) (ha.eval x) hp
  simp only[execOp,Sem.run_bind,h3,Result.andThen_ok,Sem.run_pure,Oper.upon_skip]
  exact hn aa s.ds E' h' w' _ h1 ((ha.mono h1.env).put _ (.sc _)) h2
 case range t x=>exact es _ (Me hr (ha.eval x) hp) rfl
 case next x b=>
  cases b<;>simp only at hp
  exact es _ (OI hr (ha.eval x) hp) rfl
 case panic x=>
  have hx:=ha.eval x
  unfold tg at hp
  split at hp
  ·rename_i t v he
   rw[he]at hx
   generalize hv:a.eval x=u at hx
   cases hx with
   |kx h1=>
    simp only[execOp,hv,Instr.panic,Sem.run_bind,run_goPanic,Result.andThen_halt,Oper.upon_panic]
    exact hq _ E h w _ (Step.refl hr) (.kx h1) hp
  ·exact hp.elim
 case defer c=>
  split at hp
  ·rename_i f hf
   have hx:=ha.eval f
   have pJ:=ha.BF c.args.toList
   unfold JL at hp
   split at hp
   ·rename_i fn first cap he
    rw[he]at hx
    generalize hv:a.eval f=u at hx
    cases hx with
    |fn h1 h2=>
     rename_i vs ws
     have Of:c.callee=.value f:=by
      unfold Ef at hf
      split at hf
      ·rename_i g hg;cases hf;exact hg
      ·cases hf
     simp only[execOp,Sem.run_bind,resolve,Of,hv,Deferred.ofValue,Sem.run_pure,Result.andThen_ok,Oper.upon_defer]
     have QH:AR E N ({ s with ds:=⟨fn,cap,first++c.args.toList.map (lx s)⟩::s.ds }:St) { a with defers:=⟨.fn fn ws.toArray,vs.toArray++c.args.map a.eval⟩::a.defers }:=by
      refine⟨ha.size,ha.tm,.cons ⟨ws,vs++c.args.toList.map a.eval,rfl,?_,h2,h1.append pJ⟩ ha.ds⟩
      apply Array.ext';simp
     exact hn aa _ E h w _ (Step.refl hr) (QH.put _ (.sc _)) hp
   ·exact hp.elim
  ·exact hp.elim
 case call c=>
  split at hp
  ·rename_i x y t hc
   have gP:c={ callee:=.builtin .append,args:=#[x,y],argTypes:=#[t,t] }:=by
    unfold MD at hc
    split at hc
    ·rename_i h1 h2 h3
     split at hc
     ·rename_i htt
      cases hc
      obtain⟨callee,args,argTypes⟩:=c
      simp only at h1 h2 h3
      subst h1
      congr 1
      ·exact Array.ext' h2
      ·exact Array.ext' (by rw[h3,htt])
     ·cases hc
    ·cases hc
   subst gP
   exact es _ (SJ (ty:=ty) hr (ha.eval x) (ha.eval y) hp) (by simp[execOp,resolve,invoke,builtin])
  split at hp
  ·rename_i x y t u hc
   have gP:c={ callee:=.builtin .append,args:=#[x,y],argTypes:=#[t,u] }:=by
    unfold Ip at hc
    split at hc
    ·rename_i h1 h2 h3
     split at hc
     ·cases hc
     ·cases hc
      obtain⟨callee,args,argTypes⟩:=c
      simp only at h1 h2 h3
      subst h1
      congr 1
      ·exact Array.ext' h2
      ·exact Array.ext' h3
    ·cases hc
   subst gP
   exact es _ (OJ (ty:=ty) hr (ha.eval x) (ha.eval y) hp) (by simp[execOp,resolve,invoke,builtin])
  ·split at hp
   ·rename_i f hf
    have hx:=ha.eval f
    have pJ:=ha.BF c.args.toList
    have Of:c.callee=.value f:=by
     unfold Ef at hf
     split at hf
     ·rename_i g hg;cases hf;exact hg
     ·cases hf
    unfold GJ at hp
    split at hp
    ·rename_i g first cap he
     rw[he]at hx
     generalize hv:a.eval f=u at hx
     cases hx with
     |fn h1 h2=>
      rename_i vs ws
      split at hp
      ·rename_i abO
       obtain⟨M,hM,VM⟩:=hp
       have fR:(execOp a.eval ⟨dst,.call c,ty,pos,after,guard⟩).run P w=.ok (.enter g ((vs++c.args.toList.map a.eval)++ws).toArray) w:=by
        simp only[execOp,Sem.run_bind,resolve,Of,hv,Deferred.ofValue,Sem.run_pure,Result.andThen_ok,invoke,rN abO]
        congr 2
        apply Array.ext';simp
       rw[fR,Oper.upon_enter]
       refine(VM E w _ hr ((h1.append pJ).append h2)).mono ?_
       rintro e w' ⟨E',h',ae,eA,Dp,hQ⟩
       have Cg:Step E h W w E' h' w':=by
        have:=(Step.refl (M:=W) hr).trans hr eA (fun id aJ hm=>.inl (hM id hm aJ))
        exact this
       cases ae with
       |ret v=>
        cases e with
        |returned u=>exact hn v s.ds E' h' w' _ Cg ((ha.mono Cg.env).put _ Dp) hQ
        |panicked c=>exact Dp.elim
        |outgrown=>exact Dp.elim
       |b6 v=>
        cases e with
        |returned u=>exact Dp.elim
        |panicked c=>
         obtain⟨u,rfl,hu⟩:=Dp
         exact hq v E' h' w' u Cg hu hQ
        |outgrown=>exact Dp.elim
      ·exact hp.elim
    ·exact hp.elim
   ·exact hp.elim
end
section
variable {P:Program} {ops:Array Oper} {Q:Exit->Act->World->Prop} {md:Region.Mode} {S:Nat->World->Prop}
inductive Tr (md:Region.Mode) (ops:Array Oper):Nat->Nat->Prop
 |one {i j:Nat} {o:Oper} {e:Edge}:ops[j]?=some o->e∈o.after->Region.binds md e=true->e.on=i->Tr md ops i j
 |step {i j:Nat} {o:Oper} {e:Edge}:ops[j]?=some o->e∈o.after->Region.binds md e=true->Tr md ops i e.on->Tr md ops i j
def gH(md:Region.Mode)(ops:Array Oper)(listed:Array Bool):Prop:=
 ∀j o,listed.getD j false=true->ops[j]?=some o->∀e∈o.after,Region.binds md e=true->listed.getD e.on false=true
theorem gH.tr{listed:Array Bool}(hc:gH md ops listed){i j:Nat}(ht:Tr md ops i j):listed.getD j false=true->listed.getD i false=true:=by
 induction ht with
 |one h1 h2 h3 h4=>intro h;rw[<-h4];exact hc _ _ h h1 _ h2 h3
 |step h1 h2 h3 _ ih=>intro h;exact ih (hc _ _ h h1 _ h2 h3)
theorem gH.ready{listed:Array Bool}(hc:gH md ops listed){i j:Nat}(ht:Tr md ops i j)(hj:j∈Region.ready md ops listed):listed.getD i false=true:=by
 obtain⟨_,o,ho,oe⟩:=mem_ready.1 hj
 cases ht with
 |one h1 h2 h3 h4=>rw[ho]at h1;cases h1;rw[<-h4];exact oe _ h2 h3
 |step h1 h2 h3 h4=>rw[ho]at h1;cases h1;exact hc.tr h4 (oe _ h2 h3)
theorem gH.set{listed:Array Bool}(hc:gH md ops listed){i:Nat}(hi:i∈Region.ready md ops listed):gH md ops (listed.setIfInBounds i true):=by
 intro j o hj ho e he hb
 by_cases pY:i=j
 ·subst pY
  obtain⟨_,o',dy,oe⟩:=mem_ready.1 hi
  rw[ho]at dy;cases dy
  exact getD_set_true (oe e he hb)
 ·rw[getD_set_ne false pY]at hj
  exact getD_set_true (hc j o hj ho e he hb)
def Fj:Op->Bool
 |.alloc .. |.box .. |.makeSlice .. |.buildSlice .. |.makeMap ..=>true
 |_=>false
def fP(w w':World):Prop:=∀b,b<w.heap.size->w'.heap[b]?=w.heap[b]?
theorem fP.refl{w:World}:fP w w:=fun _ _=>rfl
theorem fP.of_heap{w w':World}(h:w'.heap=w.heap):fP w w':=fun _ _=>by rw[h]
theorem fP.size{w w':World}(h:fP w w'):w.heap.size<=w'.heap.size:=by
 rcases Nat.lt_or_ge w'.heap.size w.heap.size with aJ |ll
 ·have:=h _ aJ
  rw[Array.getElem?_eq_none (zU _),Array.getElem?_eq_getElem aJ]at this
  cases this
 ·exact ll
theorem fP.trans{w w' EC:World}(h1:fP w w')(h2:fP w' EC):fP w EC:=fun b hb=>by rw[h2 b (Nat.lt_of_lt_of_le hb h1.size),h1 b hb]
def RR(C:Nat->Nat->Bool)(S:Nat->World->Prop)(pu:Nat->Bool)(j:Nat)(o:Oper)(w w':World):Prop:=if su o.op=true then w'.heap=w.heap else(∀i,C j i=true->S i w')/\(Fj o.op=true\/pu j=true->fP w w')
def lF(P:Program)(md:Region.Mode)(ops:Array Oper)(Q:Exit->Act->World->Prop)(C:Nat->Nat->Bool)(S:Nat->World->Prop)(pu:Nat->Bool):Nat->Array Bool->Act->World->Prop
 |0,listed,a,w=>Region.ready md ops listed=[]/\Q .normal a w
 |j7+1,listed,a,w=>
  (Region.ready md ops listed=[]->Q .normal a w) /\
  ∀i∈Region.ready md ops listed,wpOp P ops Q i (fun a' w'=>(∀o,ops[i]?=some o->RR C S pu i o w w')/\lF P md ops Q C S pu j7 (listed.setIfInBounds i true) a' w') a w
theorem AF{C:Nat->Nat->Bool}{pu:Nat->Bool}:∀(j7:Nat)(listed:Array Bool)(a:Act)(w:World),lF P md ops Q C S pu j7 listed a w->wpAny P md ops Q j7 listed a w
 |0,_,_,_,h=>h
 |j7+1,_,_,_,h=>⟨h.1,fun i hi=>wpOp_mono (fun a' w' h'=>AF j7 _ a' w' h'.2) (h.2 i hi)⟩
def Yq(P:Program)(ops:Array Oper)(T:World->Prop)(o:Oper)(v:Value)(a:Act):Prop:=
 (Region.wanted o (yielded ops a.tmps)=true/\∀w',T w'->(execOp a.eval o).run P w'=.ok (.value v) w') \/
 (Region.wanted o (yielded ops a.tmps)=false/\v=undef)
section
variable {T:World->Prop} {C:Nat->Nat->Bool} {pu:Nat->Bool}
theorem Yq.wpOp{i:Nat}{o:Oper}{v:Value}{a:Act}{w:World}(hi:ops[i]?=some o)(hy:Yq P ops T o v a)(hS:T w){K:Act->World->Prop}(h:K (a.put o.dst v) w) :
  wpOp P ops Q i K a w:=by
 unfold Go.wpOp
 simp only[hi]
 rcases hy with⟨hw,hv⟩ |⟨hw,rfl⟩
 ·have:=hv w hS
  simp only[hw,zV,Oper.wp,this,Oper.upon];exact .inl h
 ·simp only[hw,zE,if_false];exact h
theorem Yq.of_same{o:Oper}{v:Value}{a a':Act}(hy:Yq P ops T o v a)(he:execOp a'.eval o=execOp a.eval o)
  (hw:Region.wanted o (yielded ops a'.tmps)=Region.wanted o (yielded ops a.tmps)):Yq P ops T o v a':=by
 unfold Yq at *
 rw[he,hw]
 exact hy
theorem J2{i j:Nat}{oi oj:Oper}{v:Value}(hj:ops[j]?=some oj)(VS:oi.apart ops oj=true)
  (Dh:∀cs b,oi.op≠.select cs b) (Zb:∀cs b,oj.op≠.select cs b) (hQ:∀c a w,Q (.panic c) (a.put oi.dst v) w->Q (.panic c) a w) {K:Act->World->Prop} {a:Act} {w:World}
  (hy:Yq P ops T oi v a) (h:wpOp P ops Q j K (a.put oi.dst v) w) :
  wpOp P ops Q j (fun a' w'=>Yq P ops T oi v a'/\K (a'.put oi.dst v) w') a w:=by
 obtain⟨h1,h2,h3⟩:=Oper.apart_spec VS
 have xP:∀(a':Act),Yq P ops T oi v a'->∀u,Yq P ops T oi v (a'.put oj.dst u):=fun a' hy u=>
  hy.of_same (execOp_put oi Dh a' oj.dst u h3) (wanted_put oi a' oj.dst u h3)
 have Xv:∀d,Yq P ops T oi v { a with defers:=d::a.defers }:=fun d=>hy.of_same rfl rfl
 unfold Go.wpOp at *
 simp only[hj]at *
 rw[wanted_put oj a oi.dst v h1]at h
 split
 ·rename_i hw
  simp only[hw,zV]at h
  rcases h with h |⟨QG,XK⟩
  case inr=>exact .inr ⟨by unfold Oper.asks at *;rw[execOp_put oj Zb a oi.dst v h1]at QG;exact QG,XK⟩
  refine .inl ?_
  unfold Oper.wp at *
  rw[execOp_put oj Zb a oi.dst v h1]at h
  generalize (execOp a.eval oj).run P w=r at *
  cases r with
  |ok n w'=>
   cases n<;>simp only[Oper.upon]at h ⊢
   case value u=>exact⟨xP a hy u,by rw[<-Act.put_comm a v u h2];exact h⟩
   case skip=>exact⟨xP a hy _,by rw[<-Act.put_comm a v undef h2];exact h⟩
   case defer d=>
    refine⟨xP _ (Xv d) _,?_⟩
    rw[<-Act.put_comm _ v undef h2,<-Act.put_defers]
    exact h
   case enter f args=>
    refine Calls.mono h fun e EC he=>?_
    cases e with
    |returned u=>exact⟨xP a hy u,by rw[<-Act.put_comm a v u h2];exact he⟩
    |panicked c=>exact hQ _ _ _ he
    |outgrown=>exact he
   case row row args=>exact Rows.mono h fun u EC he=>⟨xP a hy u,by rw[<-Act.put_comm a v u h2];exact he⟩
  |halt x w'=>
   cases x<;>simp only[Oper.upon]at h ⊢
   case panic u=>exact hQ _ _ _ h
 ·rename_i hw
  simp only[hw]at h
  exact⟨xP a hy _,by rw[<-Act.put_comm a v undef h2];exact h⟩
theorem L_{i:Nat}{oi:Oper}{v:Value}(hi:ops[i]?=some oi)(hqi:su oi.op=true)(wK:∀(j:Nat)(o:Oper) cs b,ops[j]?=some o->o.op≠.select cs b)
  (hQ:∀c a w,Q (.panic c) (a.put oi.dst v) w->Q (.panic c) a w) :
  ∀(j7:Nat)(listed:Array Bool)(a:Act)(w:World),gH md ops listed ->
   (∀j oj,ops[j]?=some oj->j≠i->listed.getD j true=false->¬Tr md ops i j->oi.apart ops oj=true/\(∀w w',T w->RR C S pu j oj w w'->T w')) ->
   i∈Region.ready md ops listed->Yq P ops T oi v a->T w ->
   lF P md ops Q C S pu j7 (listed.setIfInBounds i true) (a.put oi.dst v) w->lF P md ops Q C S pu (j7+1) listed a w:=by
 have PH:∀w:World,∀o,ops[i]?=some o->RR C S pu i o w w:=by
  intro w o ho
  rw[hi]at ho;cases ho
  unfold RR;rw[zX hqi]
 intro j7
 induction j7 with
 |zero=>
  intro listed a w hc _ hr hy hS H
  refine⟨fun h=>(by rw[h]at hr;cases hr),fun j hj=>?_⟩
  by_cases pY:j=i
  ·subst pY;exact hy.wpOp hi hS ⟨PH w,H⟩
  ·have:=ready_mono hj pY
   rw[H.1]at this
   cases this
 |succ j7 ih=>
  intro listed a w hc Qz hr hy hS H
  refine⟨fun h=>(by rw[h]at hr;cases hr),fun j hj=>?_⟩
  by_cases pY:j=i
  ·subst pY;exact hy.wpOp hi hS ⟨PH w,H⟩
  ·have h1:=H.2 j (ready_mono hj pY)
   obtain⟨Vs,oj,FB,_⟩:=mem_ready.1 hj
   have eL:listed.getD i false=false:=by
    have h0:=(mem_ready.1 hr).1
    rcases Nat.lt_or_ge i listed.size with h' |h'
    ·simp[h']at h0 ⊢;exact h0
    ·simp[Array.getElem?_eq_none h']
   have Qr:¬Tr md ops i j:=fun ht=>by have:=hc.ready ht hj;rw[eL]at this;cases this
   obtain⟨VS,hq⟩:=Qz j oj FB pY Vs Qr
   have h2:=J2 (i:=i) FB VS (fun cs b=>wK i oi cs b hi) (fun cs b=>wK j oj cs b FB) hQ hy h1
   have Vy:∀k ok,ops[k]?=some ok->k≠i->(listed.setIfInBounds j true).getD k true=false->¬Tr md ops i k->oi.apart ops ok=true/\(∀w w',T w->RR C S pu k ok w w'->T w'):=by
    intro k ok hk tG Qn kZ
    refine Qz k ok hk tG ?_ kZ
    by_cases Zt:j=k
    ·subst Zt;exact Vs
    ·rw[getD_set_ne true Zt]at Qn;exact Qn
   refine wpOp_mono (fun a' w' h3=>?_) h2
   obtain⟨sy,ZI,h4⟩:=h3
   refine⟨ZI,ih (listed.setIfInBounds j true) a' w' (hc.set hj) Vy (ready_mono hr (Ne.symm pY)) sy (hq w w' hS (ZI oj FB)) ?_⟩
   rw[Array.setIfInBounds_comm _ _ pY]
   exact h4
end
def Ei(md:Region.Mode):List Oper->List Nat->List Nat
 |[],acc=>acc
 |o::rest,acc=>Ei md rest (acc++[o.after.toList.foldl (fun s e=>if Region.binds md e then s |||2^e.on |||acc.getD e.on 0 else s) 0])
def Good(md:Region.Mode)(ops:Array Oper)(acc:List Nat):Prop:=∀j i,(acc.getD j 0).testBit i=true->Tr md ops i j
theorem BD{acc:List Nat}{j:Nat}{o:Oper}(hg:Good md ops acc)(ho:ops[j]?=some o):∀(l:List Edge),(∀e∈l,e∈o.after)->∀s:Nat,(∀i,s.testBit i=true->Tr md ops i j) ->
  ∀i,(l.foldl (fun s e=>if Region.binds md e then s |||2^e.on |||acc.getD e.on 0 else s) s).testBit i=true->Tr md ops i j
 |[],_,s,hs,i,hi=>hs i hi
 |e::l,hl,s,hs,i,hi=>by
  simp only[List.foldl_cons]at hi
  refine BD hg ho l (fun e he=>hl e (by simp[he])) _ ?_ i hi
  intro k hk
  by_cases hb:Region.binds md e=true
  ·rw[zX hb]at hk
   simp only[Nat.testBit_or,Bool.or_eq_true,Nat.testBit_two_pow]at hk
   rcases hk with(hk |hk) |hk
   ·exact hs k hk
   ·exact .one ho (hl e (by simp)) hb (by simpa using hk)
   ·exact .step ho (hl e (by simp)) hb (hg _ _ hk)
  ·rw[zW hb]at hk;exact hs k hk
theorem BS:∀(l:List Oper)(acc:List Nat),(∀k,l[k]?=ops[acc.length+k]?)->Good md ops acc->Good md ops (Ei md l acc)
 |[],_,_,h=>h
 |o::l,acc,hl,h=>by
  simp only[Ei]
  refine BS l _ (fun k=>?_) ?_
  ·have:=hl (k+1)
   simp only[List.length_append,List.length_singleton]
   rw[show acc.length+1+k=acc.length+(k+1) from by omega,<-this]
   simp
  ·intro j i hi
   rw[List.getD_eq_getElem?_getD,List.getElem?_append]at hi
   split at hi
   ·exact h j i (by rw[List.getD_eq_getElem?_getD];exact hi)
   ·rename_i aJ
    by_cases he:j=acc.length
    ·subst he
     simp only[Nat.sub_self,zA,Option.getD_some]at hi
     have h0:=hl 0
     simp only[zA,Nat.add_zero]at h0
     exact BD h h0.symm o.after.toList (fun e he=>by simpa using he) 0 (by simp) i hi
    ·have:j-acc.length≠0:=by omega
     rw[List.getElem?_cons,zW this]at hi
     simp at hi
def ii(md:Region.Mode)(ops:Array Oper):List Nat:=Ei md ops.toList []
theorem Mu{i j:Nat}(h:((ii md ops).getD j 0).testBit i=true):Tr md ops i j:=
 BS ops.toList [] (fun k=>by simp) (fun j i hi=>by simp at hi) j i h
end
section
variable {P:Program} {h:AH}
section
variable {K K':AV->Prop} (hk:∀v,K v->K' v)
include hk
theorem IS{c a b:AV}(hp:aT c a b K):aT c a b K':=by unfold aT at *;split at hp<;>simp_all
theorem Kx{x:AV}(hp:aY x K):aY x K':=by unfold aY at *;split at hp<;>simp_all
theorem KC{d:Option Nat}{x:AV}(hp:ah d x K):ah d x K':=by unfold ah at *;split at hp<;>simp_all
theorem KB{s:Option (Nat×Option Nat)}{x i:AV}(hp:cj s x i K):cj s x i K':=by unfold cj at *;split at hp<;>simp_all
theorem KA{t:Bool}{x i:AV}(hp:rm t x i K):rm t x i K':=by
 unfold rm at *;split at hp
 ·obtain⟨c,h1,h2⟩:=hp;exact⟨c,h1,hk _ h2⟩
 ·exact hp.elim
theorem KD{d:Option (Nat×Nat×Bool)}{x:AV}(hp:lL d x K):lL d x K':=by
 unfold lL at *;split at hp
 ·exact hk _ hp
 ·obtain⟨c,h1,h2⟩:=hp;exact⟨c,h1,hk _ h2⟩
 ·exact hp.elim
theorem KE{x:AV}{k:Nat}(hp:cf x k K):cf x k K':=by
 unfold cf at *;split at hp
 ·obtain⟨c,h1,h2⟩:=hp;exact⟨c,h1,hk _ h2⟩
 ·exact hp.elim
theorem Ns{op:UnOp}{x:AV}(hp:gM op x K):gM op x K':=by unfold gM at *;split at hp<;>simp_all
theorem Kv{x:AV}{lo hi:Option AV}(hp:wj x lo hi K):wj x lo hi K':=by
 unfold wj at *;split at hp
 ·obtain⟨l,u,a,b,c,d⟩:=hp;exact⟨l,u,a,b,c,hk _ d⟩
 ·exact hp.elim
theorem Kw{sz:Option Nat}{x:AV}{lo hi:Option AV}(hp:sU sz x lo hi h K):sU sz x lo hi h K':=by
 unfold sU at *;split at hp
 ·obtain⟨l,u,a,b,c,d⟩:=hp;exact⟨l,u,a,b,c,hk _ d⟩
 ·exact⟨hp.1,hp.2.1,hk _ hp.2.2⟩
 ·exact hp.elim
theorem CU{x:AV}(hp:bO x K):bO x K':=by unfold bO at *;split at hp<;>simp_all
theorem Ky{d:Option Bool}{t:TypeId}{x:AV}(hp:rl d t x K):rl d t x K':=by unfold rl at *;split at hp<;>simp_all
theorem KF{k:Option IntKind}{x:AV}(hp:qi k x K):qi k x K':=by unfold qi at *;split at hp<;>simp_all
theorem Nt{d:Option Bool}{T:TypeId}{ok:Bool}{x:AV}(hp:CT d T ok x K):CT d T ok x K':=by
 unfold CT at *;split at hp
 ·exact⟨hp.1,hk _ hp.2⟩
 ·exact hp.elim
theorem KK{op:BinOp}{t:TypeId}{mY:Bool}{x y:AV}(hp:ag P op t mY x y K):ag P op t mY x y K':=by
 unfold ag at *
 split at hp<;>first |exact hp.elim |exact hk _ hp |exact⟨hp.1,hk _ hp.2⟩ |exact⟨hp.1,hp.2.1,hk _ hp.2.2⟩
theorem KH{b:Option (List Value×(List (Nat×Nat) ⊕ Nat))}{ps:List (Nat×AV)}(hp:bZ b ps K):bZ b ps K':=by
 unfold bZ at *;split at hp
 ·obtain⟨c,h1,h2⟩:=hp;exact⟨c,h1,hk _ h2⟩
 ·obtain⟨c,h1,h2⟩:=hp;exact⟨c,h1,hk _ h2⟩
 ·exact hp.elim
end
theorem Nv{K K':AV->Prop}(hk:∀v,K v->K' v){mn:Bool}{x y:AV}(hp:vi mn x y K):vi mn x y K':=by
 unfold vi at *;split at hp
 ·exact⟨hp.1,hk _ hp.2⟩
 ·exact hp.elim
theorem KO{K K':AV->Nat->Prop}(hk:∀v d,K v d->K' v d){x:AV}(hp:zu x h K):zu x h K':=by
 unfold zu at *;split at hp
 ·obtain⟨o,l,h1,h2⟩:=hp;exact⟨o,l,h1,hk _ _ h2⟩
 ·exact hp.elim
theorem NO{K K':AV->Nat->Prop}(hk:∀v d,K v d->K' v d){g:Option Bool}{n:Option Nat}{x:AV}(hp:al g n x h K):al g n x h K':=by
 unfold al at *;split at hp
 ·obtain⟨o,c,h1,h2⟩:=hp;exact⟨o,c,h1,hk _ _ h2⟩
 ·obtain⟨o,h1,h2⟩:=hp;exact⟨o,h1,hk _ _ h2⟩
 ·exact hp.elim
def mS(P:Program):Op->Bool
 |.load .. |.lookup ..=>true
 |.convert s d _=>JF P s d
 |_=>false
theorem qJ{K K':AV->Prop}(hk:∀v,K v->K' v){d:TypeId×TypeId}{l:List (AV×AV)}{k:AV}{ok:Bool}(hp:xO P d l k ok K):xO P d l k ok K':=by
 obtain⟨h1,r,z,h2,h3,h4⟩:=hp
 refine⟨h1,r,z,h2,h3,?_⟩
 cases r with
 |none=>exact hk _ h4
 |some x=>exact hk _ h4
theorem I2{K K':AV->Option Nat->Prop}{d:Option (TypeId×TypeId)}{x k:AV}{ok:Bool}(hk:∀v d,K v d->K' v d)(hp:fC P d x k ok h K):fC P d x k ok h K':=by
 unfold fC at *;split at hp
 ·obtain⟨o,l,h1,h2⟩:=hp;exact⟨o,l,h1,qJ (fun v=>hk v _) h2⟩
 ·exact qJ (fun v=>hk v _) hp
 ·exact hp.elim
theorem DI{t:TypeId}{K K':AV->AH->Prop}(hk:∀v h',K v h'->K' v h')(hp:qq t h K):qq t h K':=hk _ _ hp
theorem qL{d:Option (TypeId×TypeId)}{x k v:AV}{W:Nat->Prop}{K K':AH->Prop}(hk:∀h',K h'->K' h')(hp:dI P d x k v h W K):dI P d x k v h W K':=by
 unfold dI at *;split at hp
 ·obtain⟨o,l,r,h1,h2,h3,h4⟩:=hp;exact⟨o,l,r,h1,h2,h3,hk _ h4⟩
 ·exact hp.elim
theorem qOp_mono{op:Op}{ρ:Operand->AV}{K K':AV->Option Nat->Prop}(hk:∀v d,(mS P op=false->d=none)->K v d->K' v d)(hp:qOp P op ρ h K):qOp P op ρ h K':=by
 cases op<;>simp only[qOp]at hp ⊢<;>try exact hp.elim
 case move=>exact hk _ _ (by simp) hp
 case assign=>exact hk _ _ (by simp) hp
 case pick=>exact IS (fun v=>hk v none (by simp)) hp
 case nilCheck=>exact Kx (fun v=>hk v none (by simp)) hp
 case fieldAddr=>exact KC (fun v=>hk v none (by simp)) hp
 case indexAddr=>exact KB (fun v=>hk v none (by simp)) hp
 case index=>exact KA (fun v=>hk v none (by simp)) hp
 case field=>exact KD (fun v=>hk v none (by simp)) hp
 case extract=>exact KE (fun v=>hk v none (by simp)) hp
 case binOp=>exact KK (fun v=>hk v none (by simp)) hp
 case unOp=>exact Ns (fun v=>hk v none (by simp)) hp
 case makeInterface=>exact Ky (fun v=>hk v none (by simp)) hp
 case makeFunc=>exact hk _ _ (by simp) hp
 case typeAssert=>exact Nt (fun v=>hk v none (by simp)) hp
 case build=>exact KH (fun v=>hk v none (by simp)) hp
 case load=>exact NO (fun v d=>hk v (some d) (by simp[mS])) hp
 case lookup=>exact I2 (fun v d=>hk v d (by simp[mS])) hp
 case convert=>
  split at hp
  ·rename_i hb
   exact KO (fun v d=>hk v (some d) (by simp[mS,hb])) hp
  ·split at hp
   ·exact KF (fun v=>hk v none (by simp)) hp
   ·exact hp.elim
 case slice t x lo hi mx=>
  cases mx with
  |some _=>exact hp.elim
  |none=>
   simp only at hp ⊢
   split at hp
   ·exact Kv (fun v=>hk v none (by simp)) hp
   ·exact Kw (fun v=>hk v none (by simp)) hp
 case call c=>
  split at hp
  ·split at hp
   ·exact⟨hp.1,CU (fun v=>hk v none (by simp)) hp.2⟩
   ·exact⟨hp.1,CU (fun v=>hk v none (by simp)) hp.2⟩
   ·exact hp.elim
  ·split at hp
   ·exact Nv (fun v=>hk v none (by simp)) hp
   ·exact hp.elim
section
variable {K K':AV->AH->Prop} (hk:∀v h',K v h'->K' v h')
include hk
theorem yZ{z:Option (List Value)}{sz:Nat}{t:TypeId}(hp:bn z sz t h K):bn z sz t h K':=by unfold bn at *;split at hp<;>simp_all
theorem DJ{sz:Nat}{t:TypeId}{x:AV}(hp:dS sz t x h K):dS sz t x h K':=by obtain⟨c,a,b,d⟩:=hp;exact⟨c,a,b,hk _ _ d⟩
theorem DL{z:Option (Nat×TypeId×List Value)}{len:Nat}{ps:List (Nat×AV)}(hp:dK z len ps h K):dK z len ps h K':=by
 unfold dK at *;split at hp
 ·obtain⟨c,a,b⟩:=hp;exact⟨c,a,hk _ _ b⟩
 ·exact hp.elim
theorem Gc{a:Option (Nat×Nat×TypeId×List Value)}{l c:AV}(hp:H_ a l c h K):H_ a l c h K':=by
 unfold H_ at *;split at hp
 ·exact⟨hp.1,hk _ _ hp.2⟩
 ·exact hp.elim
theorem yY{t:Bool}{x:AV}(hp:qa t x h K):qa t x h K':=by unfold qa at *;split at hp<;>simp_all
theorem BK{W:Nat->Prop}{x:AV}(hp:sI x h W K):sI x h W K':=by
 unfold sI at *;split at hp
 ·obtain⟨o,s,p,a,b⟩:=hp
  refine⟨o,s,p,a,?_⟩
  split at b
  ·rename_i hc;rw[zX hc];exact hk _ _ b
  ·rename_i hc;rw[zW hc];exact hk _ _ b
 ·exact hp.elim
theorem DM{a:Option (Nat×Nat×TypeId)}{x y:AV}{W:Nat->Prop}(hp:eh a x y h W K):eh a x y h W K':=by
 unfold eh at *;split at hp
 ·exact hp.elim
 ·obtain⟨m,cs,hn,hp⟩:=hp
  refine⟨m,cs,hn,?_⟩
  split at hp
  ·split at hp
   ·rename_i hc;rw[zX hc];exact hk _ _ hp
   ·rename_i hc;rw[zW hc];exact⟨hp.1,hk _ _ hp.2⟩
  ·split at hp
   ·rename_i hc;rw[zX hc];exact hk _ _ hp
   ·rename_i hc;rw[zW hc];obtain⟨h0,o,h1,h2⟩:=hp;exact⟨h0,o,h1,hk _ _ h2⟩
  ·exact hp.elim
theorem BL{a:Option TypeId}{x y:AV}{W:Nat->Prop}(hp:qM a x y h W K):qM a x y h W K':=by
 unfold qM at *;split at hp
 ·split at hp
  ·split at hp
   ·rename_i hc;rw[zX hc];exact hk _ _ hp
   ·rename_i hc;rw[zW hc];exact⟨hp.1,hk _ _ hp.2⟩
  ·obtain⟨h0,o,h1,h2⟩:=hp;exact⟨h0,o,h1,hk _ _ h2⟩
  ·exact hp.elim
 ·exact hp.elim
theorem JM{W:Nat->Prop}{f:FuncId}{args:List AV}{KP xB:AV->AH->Prop}(FE:∀v h',KP v h'->xB v h')(hp:aC P W f args h K KP):aC P W f args h K' xB:=by
 obtain⟨M,h1,h2⟩:=hp
 refine⟨M,h1,h2.mono fun ae h' _ _ hq=>?_⟩
 cases ae with
 |ret v=>exact hk _ _ hq
 |b6 v=>exact FE _ _ hq
theorem GI{W:Nat->Prop}{x:AV}{args:List AV}{KP xB:AV->AH->Prop}(FE:∀v h',KP v h'->xB v h')(hp:GJ P W x args h K KP):GJ P W x args h K' xB:=by
 unfold GJ at *
 split at hp
 ·split at hp
  ·exact JM hk FE hp
  ·exact hp.elim
 ·exact hp.elim
end
theorem yX{K K':AH->Prop}(hk:∀h',K h'->K' h'){n:Option Nat}{a x:AV}{W:Nat->Prop}(hp:aE n a x h W K):aE n a x h W K':=by
 unfold aE at *;split at hp
 ·obtain⟨o,cs,h1,h2⟩:=hp;exact⟨o,cs,h1,hk _ h2⟩
 ·exact hp.elim
theorem OH{W:Nat->Prop}{op:Op}{ρ:Operand->AV}{ds:List eT}{K K':AV->List eT->AH->Prop}{KP xB:AV->AH->Prop}(hk:∀v d h',K v d h'->K' v d h')(FE:∀v h',KP v h'->xB v h')
  (hp:tO P W op ρ ds h K KP):tO P W op ρ ds h K' xB:=by
 cases op<;>simp only[tO]at hp ⊢<;>try exact hp.elim
 case alloc=>exact yZ (fun v h'=>hk v ds h') hp
 case box=>exact DJ (fun v h'=>hk v ds h') hp
 case store=>exact yX (fun h'=>hk aa ds h') hp
 case buildSlice=>exact DL (fun v h'=>hk v ds h') hp
 case makeSlice=>exact Gc (fun v h'=>hk v ds h') hp
 case makeMap t r=>
  cases r<;>simp only at hp ⊢
  exact DI (fun v h'=>hk v ds h') hp
 case mapUpdate=>exact qL (fun h'=>hk aa ds h') hp
 case insert=>exact qL (fun h'=>hk aa ds h') hp
 case range=>exact yY (fun v h'=>hk v ds h') hp
 case next x b=>
  cases b<;>simp only at hp ⊢
  exact BK (fun v h'=>hk v ds h') hp
 case panic=>unfold tg at *;split at hp<;>simp_all
 case defer c=>
  split at hp
  ·unfold JL at *;split at hp<;>simp_all
  ·exact hp.elim
 case call c=>
  split at hp
  ·exact DM (fun v h'=>hk v ds h') hp
  split at hp
  ·exact BL (fun v h'=>hk v ds h') hp
  ·split at hp
   ·exact GI (fun v h'=>hk v ds h') FE hp
   ·exact hp.elim
end
end Go.Ab
