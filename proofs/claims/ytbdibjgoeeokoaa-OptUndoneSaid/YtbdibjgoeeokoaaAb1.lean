/- A table of named rows that a world bears, and the operations that read and act over it, each as the model has it. No condition. -/
import Derived.WalkKit
import Derived.KernelRfl
import Derived.Deep.AppendLies
import Derived.OrdersHeld
import Derived.Defers
import Derived.Recover
import Derived.Laws.StructEq
import Derived.Laws.BytesString
import Derived.Lib.AppendStr
import Derived.Deep.AppendSrc
set_option maxRecDepth 100000
namespace Go.Ab
theorem zA.{u}:∀{α:Type u}{a:α}{l:List α},(a::l)[0]?=some a:=@List.getElem?_cons_zero
theorem zB.{u}:∀{α:Type u}{a:α}{i:Nat}{l:List α},(a::l)[i+1]?=l[i]?:=@List.getElem?_cons_succ
theorem zC:∀p:Prop,(False->p)=True:=@false_implies
theorem zD:∀p:Prop,(True->p)=p:=@true_implies
theorem zE:(false=true)=False:=@Bool.false_eq_true
theorem zF:(true=false)=False:=@Bool.true_eq_false
theorem zG:∀n:Nat,0+n=n:=@Nat.zero_add
theorem zH:∀p:Prop,(True/\p)=p:=@true_and
theorem zI:∀p:Prop,(p/\True)=p:=@and_true
theorem zJ.{u}:∀{α:Type u}{l:List α}{i:Nat}(h:i<l.length),l[i]?=some l[i]:=@List.getElem?_eq_getElem
theorem zK:∀{p:Prop}[inst:Decidable p],¬p->decide p=false:=@decide_eq_false
theorem zL:∀{p:Prop}[inst:Decidable p],p->decide p=true:=@decide_eq_true
theorem zM.{u}:∀{α:Type u}{i:Nat}{a:α}{l:List α},l[i]?=some a↔∃h:i<l.length,l[i]=a:=@List.getElem?_eq_some_iff
theorem zN.{u}:∀{α:Type u}{x:α}{xs:List α}{d:α},(x::xs).getD 0 d=x:=@List.getD_cons_zero
theorem zO.{u}:∀{α:Type u}{x:α}{xs:List α}{n:Nat}{d:α},(x::xs).getD (n+1) d=xs.getD n d:=@List.getD_cons_succ
theorem zP.{u}:∀{α:Type u}{l:List α}{i:Nat}{a:α},l[i]?=some a->a∈l:=@List.mem_of_getElem?
theorem zQ.{u}:∀{α:Type u}(a b:α),(some a=some b)=(a=b):=@Option.some.injEq
theorem zR:∀{n m k:Nat},n<=m->m<=k->n<=k:=@Nat.le_trans
theorem zS:(!true)=false:=@Bool.not_true
theorem zT:(!false)=true:=@Bool.not_false
theorem zU:∀n:Nat,n<=n:=@Nat.le_refl
theorem zV.{u}:∀{α:Sort u}{x:Decidable True}(t e:α),(if True then t else e)=t:=@if_true
theorem zW.{u}:∀{c:Prop}{h:Decidable c},¬c->∀{α:Sort u}{t e:α},(if c then t else e)=e:=@if_neg
theorem zX.{u}:∀{c:Prop}{h:Decidable c},c->∀{α:Sort u}{t e:α},(if c then t else e)=t:=@if_pos
theorem zY:∀n:Nat,((n:Int).toNat)=n:=@Int.toNat_natCast
theorem zZ.{u,v}:∀{α:Type u}{β:Type v}{as:List α}(f:α->β), (List.map f as).length=as.length:=@List.length_map
theorem yA.{u}:∀{α:Type u}{i:Nat}{l:List α},(List.take i l).length =min i l.length:=@List.length_take
theorem yB.{u,v}:∀{α:Type u}{β:Type v}(a:α)(f:α->β),Option.map f (some a)=some (f a):=@Option.map_some
theorem yC:∀a b:Bool,((a&&b)=true)=(a=true/\b=true):=@Bool.and_eq_true
end Go.Ab
namespace Go.Ab
section
inductive AV where
 |sc (v:Value)
 |ptr (id off:Nat)
 |sl (id off len:Nat)
 |agg (l:List AV)
 |tup (l:List AV)
 |ifc (t:TypeId) (v:AV)
 |fn (f:Fn) (first captured:List AV)
 |mp (id:Nat)
 deriving Inhabited
structure Blk where
 b:Nat
 n:Nat
 sz:Nat
 o:Nat:=0
abbrev Env:=Nat->Option Blk
mutual
inductive VR (E:Env):AV->Value->Prop
 |sc (v:Value):VR E (.sc v) v
 |ptr {id off:Nat} {B:Blk}:E id=some B->VR E (.ptr id off) (.pointer (some ⟨B.b,B.o+off,none⟩))
 |sl {id off len o cap:Nat} {B:Blk}:E id=some B->(o=B.o+off\/(cap=0/\0<off))->off+cap*B.sz=B.n->len<=cap->cap<=maxLen ->
   VR E (.sl id off len) (.slice (some ⟨B.b,o,none⟩) len cap)
 |agg {l:List AV} {vs:List Value}:VRs E l vs->VR E (.agg l) (.agg vs.toArray)
 |tup {l:List AV} {vs:List Value}:VRs E l vs->VR E (.tup l) (.tuple vs.toArray)
 |ifc {t:TypeId} {a:AV} {v:Value}:VR E a v->VR E (.ifc t a) (.iface t v)
 |fn {f:Fn} {fs cs:List AV} {vs ws:List Value}:VRs E fs vs->VRs E cs ws->VR E (.fn f fs cs) (.func f vs.toArray ws.toArray)
 |mp {id:Nat} {B:Blk}:E id=some B->VR E (.mp id) (.map (some B.b))
inductive VRs (E:Env):List AV->List Value->Prop
 |nil:VRs E [] []
 |cons {a:AV} {v:Value} {l:List AV} {vs:List Value}:VR E a v->VRs E l vs->VRs E (a::l) (v::vs)
end
def Env.le(E E':Env):Prop:=∀id B,E id=some B->E' id=some B
mutual
theorem VR.mono{E E':Env}(hE:E.le E'):∀{a:AV}{v:Value},VR E a v->VR E' a v
 |_,_,.sc v=>.sc v
 |_,_,.ptr h=>.ptr (hE _ _ h)
 |_,_,.sl h a b c d=>.sl (hE _ _ h) a b c d
 |_,_,.agg h=>.agg (VRs.mono hE h)
 |_,_,.tup h=>.tup (VRs.mono hE h)
 |_,_,.ifc h=>.ifc (VR.mono hE h)
 |_,_,.fn h k=>.fn (VRs.mono hE h) (VRs.mono hE k)
 |_,_,.mp h=>.mp (hE _ _ h)
theorem VRs.mono{E E':Env}(hE:E.le E'):∀{l:List AV}{vs:List Value},VRs E l vs->VRs E' l vs
 |_,_,.nil=>.nil
 |_,_,.cons h k=>.cons (VR.mono hE h) (VRs.mono hE k)
end
theorem VRs.length{E:Env}:∀{l:List AV}{vs:List Value},VRs E l vs->l.length=vs.length
 |_,_,.nil=>rfl
 |_,_,.cons _ k=>by simp[VRs.length k]
theorem VRs.get{E:Env}:∀{l:List AV}{vs:List Value},VRs E l vs->∀{i:Nat}{a:AV},l[i]?=some a->∃v,vs[i]?=some v/\VR E a v
 |_,_,.nil,i,a,h=>by simp at h
 |_,_,.cons (v:=v) h k,0,a,hi=>by simp at hi;subst hi;exact⟨v,by simp,h⟩
 |_,_,.cons h k,i+1,a,hi=>by
  simp only[zB]at hi ⊢
  exact VRs.get k hi
theorem VRs.append{E:Env}{l m:List AV}{vs ws:List Value}(h:VRs E l vs)(k:VRs E m ws):VRs E (l++m) (vs++ws):=by
 induction l generalizing vs with
 |nil=>cases h;simpa using k
 |cons a l ih=>cases h with |cons h1 h2=>exact .cons h1 (ih h2)
theorem VRs.of_get{E:Env}:∀(l:List AV)(vs:List Value),l.length=vs.length->(∀(i:Nat)(a:AV)(v:Value),l[i]?=some a->vs[i]?=some v->VR E a v)->VRs E l vs
 |[],[],_,_=>.nil
 |[],_::_,h,_=>by simp at h
 |_::_,[],h,_=>by simp at h
 |a::l,v::vs,h,k=>.cons (k 0 a v rfl rfl) (VRs.of_get l vs (by simpa using h) fun i a v h1 h2=>k (i+1) a v (by simpa using h1) (by simpa using h2))
inductive Kind where
 |row
 |iter (s:ByteArray) (pos:Nat)
 |glob (b:Nat) (ob:Go.Obj)
 |map (l:List (AV×AV))
structure AO where
 cells:List AV
 sz:Nat
 ty:TypeId
 ro:Bool:=false
 kind:Kind:=.row
structure AH where
 obj:Nat->Option AO
 next:Nat
 lt:∀id o,obj id=some o->id<next
def AH.alloc(h:AH)(o:AO):AH where
 obj id:=if id=h.next then some o else h.obj id
 next:=h.next+1
 lt id o' hi:=by
  split at hi
  ·omega
  ·have:=h.lt _ _ hi;omega
def AH.upd(h:AH)(id:Nat)(f:AO->AO):AH where
 obj i:=if i=id then(h.obj i).map f else h.obj i
 next:=h.next
 lt i o hi:=by
  split at hi
  ·cases ho:h.obj i with
   |none=>rw[ho]at hi;simp at hi
   |some o'=>exact h.lt _ _ ho
  ·exact h.lt _ _ hi
def AH.del(h:AH)(id:Nat):AH where
 obj i:=if i=id then none else h.obj i
 next:=h.next
 lt i o hi:=by
  split at hi
  ·cases hi
  ·exact h.lt _ _ hi
def CR(E:Env)(cells:List AV)(arr:Array Value):Prop:=
 ∀(i:Nat)(c:AV),cells[i]?=some c->∃v:Value,arr[i]?=some v/\VR E c v/\v.oneCell'=true
def CRb(E:Env)(k:Nat)(cells:List AV)(arr:Array Value):Prop:=
 ∀(i:Nat)(c:AV),cells[i]?=some c->∃v:Value,arr[k+i]?=some v/\VR E c v/\v.oneCell'=true
theorem CRb.zero{E:Env}{k:Nat}{cells:List AV}{arr:Array Value}(hk:k=0)(h:CRb E k cells arr):CR E cells arr:=by
 subst hk
 intro i c hi
 simpa using h i c hi
theorem CR.toB{E:Env}{cells:List AV}{arr:Array Value}(h:CR E cells arr):CRb E 0 cells arr:=by
 intro i c hi
 simpa using h i c hi
def ORow(E:Env)(o:AO)(B:Blk)(w:World):Prop:=
 ∃arr fz,w.heap[B.b]?=some (.cells arr o.ty fz)/\(o.ro=false->fz=(0,0)/\arr.size=B.n/\B.o=0)/\o.cells.length<=B.n/\B.sz=o.sz/\CRb E B.o o.cells arr
inductive MR (E:Env):List (AV×AV)->List MapEntry->Prop
 |nil:MR E [] []
 |cons {k v:AV} {l:List (AV×AV)} {e:MapEntry} {es:List MapEntry}:VR E k e.key->VR E v e.val->MR E l es->MR E ((k,v)::l) (e::es)
theorem MR.mono{E E':Env}(hE:E.le E'):∀{l:List (AV×AV)}{es:List MapEntry},MR E l es->MR E' l es
 |_,_,.nil=>.nil
 |_,_,.cons h k r=>.cons (h.mono hE) (k.mono hE) (r.mono hE)
def OR(E:Env)(o:AO)(B:Blk)(w:World):Prop:=
 match o.kind with
 |.row=>ORow E o B w
 |.iter s p=>B.o=0/\w.heap[B.b]?=some (.stringIter s p)
 |.glob b ob=>B.b=b/\w.heap[b]?=some ob
 |.map l=>B.o=0/\∃es clock,w.heap[B.b]?=some (.map es clock)/\MR E l es.toList
theorem OR.row{E:Env}{o:AO}{B:Blk}{w:World}(h:OR E o B w)(hk:o.kind=.row):ORow E o B w:=by
 unfold OR at h;rw[hk]at h;exact h
theorem OR.of_row{E:Env}{o:AO}{B:Blk}{w:World}(hk:o.kind=.row)(h:ORow E o B w):OR E o B w:=by
 unfold OR;rw[hk];exact h
theorem OR.lt{E:Env}{o:AO}{B:Blk}{w:World}(h:OR E o B w):B.b<w.heap.size:=by
 unfold OR at h
 split at h
 ·obtain⟨arr,fz,h1,_⟩:=h
  exact(Array.getElem?_eq_some_iff.1 h1).1
 ·exact(Array.getElem?_eq_some_iff.1 h.2).1
 ·rw[h.1];exact(Array.getElem?_eq_some_iff.1 h.2).1
 ·obtain⟨_,es,c,h1,_⟩:=h;exact(Array.getElem?_eq_some_iff.1 h1).1
theorem OR.mono{E E':Env}{o:AO}{B:Blk}{w w':World}(h:OR E o B w)(hE:E.le E')(hw:w'.heap[B.b]?=w.heap[B.b]?):OR E' o B w':=by
 unfold OR at *
 split at h
 ·obtain⟨arr,fz,h1,h2,h3,h4,h5⟩:=h
  exact⟨arr,fz,by rw[hw];exact h1,h2,h3,h4,fun i c hi=>let ⟨v,a,b,d⟩:=h5 i c hi;⟨v,a,b.mono hE,d⟩⟩
 ·rw[hw];exact h
 ·exact⟨h.1,by rw[<-h.1,hw,h.1];exact h.2⟩
 ·obtain⟨h0,es,c,h1,h2⟩:=h;exact⟨h0,es,c,by rw[hw];exact h1,h2.mono hE⟩
structure Rel (E:Env) (h:AH) (w:World):Prop where
 obj:∀id o,h.obj id=some o->∃B,E id=some B/\OR E o B w
 inj:∀i j oi oj Bi Bj,h.obj i=some oi->h.obj j=some oj->E i=some Bi->E j=some Bj->Bi.b=Bj.b->i=j\/(oi.ro=true/\oj.ro=true)
 fresh:∀id,h.next<=id->E id=none
structure Step (E:Env) (h:AH) (M:Nat->Prop) (w:World) (E':Env) (h':AH) (w':World):Prop where
 env:E.le E'
 rel:Rel E' h' w'
 next:h.next<=h'.next
 keep:∀id,id<h.next->¬M id->h'.obj id=h.obj id
 dead:∀id,id<h.next->h.obj id=none->h'.obj id=none
 os:w'.os=w.os
 tape:w'.tape=w.tape
 output:w'.output=w.output
 size:w.heap.size<=w'.heap.size
 frame:∀b,b<w.heap.size->(∀id B o,M id->h.obj id=some o->o.ro=false->E id=some B->B.b≠b)->w'.heap[b]?=w.heap[b]?
 orig:∀id B o,h'.obj id=some o->o.ro=false->E' id=some B->h.next<=id->w.heap.size<=B.b\/∃j C oj,M j/\h.obj j=some oj/\oj.ro=false/\E j=some C/\C.b=B.b
 rok:∀id o o',h.obj id=some o->h'.obj id=some o'->o.ro=true->o'.ro=true
theorem Step.refl{E:Env}{h:AH}{M:Nat->Prop}{w:World}(hr:Rel E h w):Step E h M w E h w where
 env _ _ h:=h
 rel:=hr
 next:=zU _
 keep _ _ _:=rfl
 dead _ _ h:=h
 os:=rfl
 tape:=rfl
 output:=rfl
 size:=zU _
 frame _ _ _:=rfl
 orig id B o h1 _ _ h3:=by have:=h.lt _ _ h1;omega
 rok id o o' h1 h2 h3:=by rw[h1]at h2;cases h2;exact h3
theorem Rel.env_of{E:Env}{h:AH}{w:World}(hr:Rel E h w){id:Nat}(hn:h.obj id≠none):∃B,E id=some B:=by
 cases ho:h.obj id with
 |none=>exact absurd ho hn
 |some o=>obtain⟨B,hB,_⟩:=hr.obj _ _ ho;exact⟨B,hB⟩
theorem AH.lt'{h:AH}{id:Nat}(hn:h.obj id≠none):id<h.next:=by
 cases ho:h.obj id with
 |none=>exact absurd ho hn
 |some o=>exact h.lt _ _ ho
theorem Step.trans{E E1 E2:Env}{h h1 h2:AH}{M M1:Nat->Prop}{w w1 w2:World}(hr:Rel E h w)(a:Step E h M w E1 h1 w1)(b:Step E1 h1 M1 w1 E2 h2 w2)
  (hM:∀id,id<h1.next->M1 id->M id\/h.next<=id):Step E h M w E2 h2 w2 where
 env:=fun id B h=>b.env id B (a.env id B h)
 rel:=b.rel
 next:=zR a.next b.next
 keep id hlt hm:=by
  rw[b.keep id (Nat.lt_of_lt_of_le hlt a.next) (fun h=>(hM id (Nat.lt_of_lt_of_le hlt a.next) h).elim hm (fun h=>by omega)),a.keep id hlt hm]
 dead id hlt h0:=b.dead id (Nat.lt_of_lt_of_le hlt a.next) (a.dead id hlt h0)
 os:=b.os.trans a.os
 tape:=b.tape.trans a.tape
 output:=b.output.trans a.output
 size:=zR a.size b.size
 frame bl hb hno:=by
  rw[b.frame bl (Nat.lt_of_lt_of_le hb a.size) ?_,a.frame bl hb hno]
  intro id B o1 hm1 hobj hro hE
  have hlt1:=h1.lt _ _ hobj
  by_cases hge:h.next<=id
  ·rcases a.orig id B o1 hobj hro hE hge with h3 |⟨j,C,oj,h4,h5,h5',h6,h7⟩
   ·omega
   ·rw[<-h7];exact hno j C oj h4 h5 h5' h6
  ·have hm:M id:=(hM id hlt1 hm1).elim (fun h=>h) (fun h=>absurd h hge)
   cases hob:h.obj id with
   |none=>have:=a.dead id (by omega) hob;rw[hobj]at this;cases this
   |some o0=>
    have hro0:o0.ro=false:=by
     cases hh:o0.ro with
     |false=>rfl
     |true=>have:=a.rok id o0 o1 hob hobj hh;rw[hro]at this;cases this
    obtain⟨B0,hB0,_⟩:=hr.obj id o0 hob
    have:=a.env id B0 hB0
    rw[hE]at this
    cases this
    exact hno id B o0 hm hob hro0 hB0
 orig id B o2 hobj hro hE hge:=by
  have back:∀j C oj,h1.obj j=some oj->oj.ro=false->E1 j=some C->(M j\/h.next<=j)->w.heap.size<=C.b\/∃k D ok,M k/\h.obj k=some ok/\ok.ro=false/\E k=some D/\D.b=C.b:=by
   intro j C oj hj hroj hC hor
   by_cases hge:h.next<=j
   ·exact a.orig j C oj hj hroj hC hge
   ·have hm:M j:=hor.elim (fun h=>h) (fun h=>absurd h hge)
    cases hob:h.obj j with
    |none=>have:=a.dead j (by omega) hob;rw[hj]at this;cases this
    |some o0=>
     have hro0:o0.ro=false:=by
      cases hh:o0.ro with
      |false=>rfl
      |true=>have:=a.rok j o0 oj hob hj hh;rw[hroj]at this;cases this
     obtain⟨B0,hB0,_⟩:=hr.obj j o0 hob
     have:=a.env j B0 hB0
     rw[hC]at this
     cases this
     exact .inr ⟨j,C,o0,hm,hob,hro0,hB0,rfl⟩
  by_cases h1':h1.next<=id
  ·rcases b.orig id B o2 hobj hro hE h1' with h3 |⟨j,C,oj,h4,h5,h5',h6,h7⟩
   ·exact .inl (zR a.size h3)
   ·rw[<-h7]
    exact back j C oj h5 h5' h6 (hM j (h1.lt _ _ h5) h4)
  ·cases hob:h1.obj id with
   |none=>have:=b.dead id (by omega) hob;rw[hobj]at this;cases this
   |some o1=>
    have hro1:o1.ro=false:=by
     cases hh:o1.ro with
     |false=>rfl
     |true=>have:=b.rok id o1 o2 hob hobj hh;rw[hro]at this;cases this
    obtain⟨B0,hB0,_⟩:=a.rel.obj id o1 hob
    have:=b.env id B0 hB0
    rw[hE]at this
    cases this
    exact back id B o1 hob hro1 hB0 (.inr hge)
 rok id o o' h1' h2' h3':=by
  cases hob:h1.obj id with
  |none=>have:=b.dead id (h.lt _ _ h1' |> fun hl=>Nat.lt_of_lt_of_le hl a.next) hob;rw[h2']at this;cases this
  |some o1=>exact b.rok id o1 o' hob h2' (a.rok id o o1 h1' hob h3')
theorem Rel.of_heap{E:Env}{h:AH}{w w':World}(hr:Rel E h w)(hh:w'.heap=w.heap):Rel E h w' where
 obj id o ho:=by
  obtain⟨B,hB,hO⟩:=hr.obj id o ho
  exact⟨B,hB,hO.mono (fun _ _ h=>h) (by rw[hh])⟩
 inj:=hr.inj
 fresh:=hr.fresh
theorem Step.drew{E:Env}{h:AH}{M:Nat->Prop}{w w':World}(hr:Rel E h w)(hh:w'.heap=w.heap)(ho:w'.os=w.os)(ht:w'.tape=w.tape)(hu:w'.output=w.output) :
  Step E h M w E h w' where
 env _ _ h:=h
 rel:=hr.of_heap hh
 next:=zU _
 keep _ _ _:=rfl
 dead _ _ h:=h
 os:=ho
 tape:=ht
 output:=hu
 size:=by rw[hh];exact zU _
 frame _ _ _:=by rw[hh]
 orig id B o h1 _ _ h3:=by have:=h.lt _ _ h1;omega
 rok id o o' h1 h2 h3:=by rw[h1]at h2;cases h2;exact h3
end
section
def Env.put(E:Env)(id:Nat)(B:Blk):Env:=fun i=>if i=id then some B else E i
theorem Env.le_put{E:Env}{id:Nat}{B:Blk}(h:E id=none):E.le (E.put id B):=by
 intro i C hi
 unfold Env.put
 split
 ·rename_i e;subst e;rw[h]at hi;cases hi
 ·exact hi
theorem Step.allocO{E:Env}{h:AH}{M:Nat->Prop}{w:World}(hr:Rel E h w){o:AO}(ob:Go.Obj)(n sz:Nat)
  (hc:∀E' w',E.le E'->w'.heap[w.heap.size]?=some ob->OR E' o ⟨w.heap.size,n,sz,0⟩ w') :
  Step E h M w (E.put h.next ⟨w.heap.size,n,sz,0⟩) (h.alloc o) (w.alloc ob):=by
 have hle:E.le (E.put h.next ⟨w.heap.size,n,sz,0⟩):=Env.le_put (hr.fresh _ (zU _))
 have hold:∀k,k<w.heap.size->(w.alloc ob).heap[k]?=w.heap[k]?:=fun k hk=>RowKit.Below.heap_alloc _ _ _ hk
 have hnew:(w.alloc ob).heap[w.heap.size]?=some ob:=by
  show(w.heap.push _)[w.heap.size]?=_
  simp
 refine⟨hle,⟨?_,?_,?_⟩,by simp[AH.alloc],fun id hlt _=>?_,fun id hlt h0=>?_,rfl,rfl,rfl,by simp,fun b hb _=>hold b hb,fun id B o1 h1 _ h2 h3=>?_,fun id o1 o2 h1 h2 h3=>?_⟩
 ·intro id o' ho
  simp only[AH.alloc]at ho
  by_cases e:id=h.next
  ·subst e
   simp only[zV,zQ]at ho
   subst ho
   exact⟨⟨w.heap.size,n,sz,0⟩,by simp[Env.put],hc _ _ hle hnew⟩
  ·rw[zW e]at ho
   obtain⟨B,hB,hO⟩:=hr.obj id o' ho
   exact⟨B,hle _ _ hB,hO.mono hle (hold _ hO.lt)⟩
 ·intro i j oi oj Bi Bj h1 h2 h3 h4 h5
  simp only[AH.alloc]at h1 h2
  have old:∀i o' B',i≠h.next->h.obj i=some o'->(E.put h.next ⟨w.heap.size,n,sz,0⟩) i=some B'->E i=some B'/\B'.b<w.heap.size:=by
   intro i o' B' hne ho hB
   obtain⟨B,hB0,hO⟩:=hr.obj i o' ho
   simp only[Env.put,zW hne]at hB
   rw[hB0]at hB;cases hB
   exact⟨hB0,hO.lt⟩
  by_cases ei:i=h.next<;>by_cases ej:j=h.next
  ·left;rw[ei,ej]
  ·rw[zW ej]at h2
   have:=old j oj Bj ej h2 h4
   subst ei
   simp only[Env.put,zV,zQ]at h3
   subst h3
   simp only at h5
   omega
  ·rw[zW ei]at h1
   have:=old i oi Bi ei h1 h3
   subst ej
   simp only[Env.put,zV,zQ]at h4
   subst h4
   simp only at h5
   omega
  ·rw[zW ei]at h1
   rw[zW ej]at h2
   exact hr.inj i j oi oj Bi Bj h1 h2 (old i oi Bi ei h1 h3).1 (old j oj Bj ej h2 h4).1 h5
 ·intro id hid
  simp only[AH.alloc]at hid
  simp only[Env.put,zW (show id≠h.next by omega)]
  exact hr.fresh _ (by omega)
 ·simp only[AH.alloc,zW (show id≠h.next by omega)]
 ·simp only[AH.alloc,zW (show id≠h.next by omega)];exact h0
 ·by_cases e:id=h.next
  ·subst e
   simp only[Env.put,zV,zQ]at h2
   subst h2
   exact .inl (zU _)
  ·simp only[AH.alloc,zW e]at h1
   have:=h.lt _ _ h1
   omega
 ·have:=h.lt _ _ h1
  simp only[AH.alloc,zW (show id≠h.next by omega)]at h2
  rw[h1]at h2;cases h2;exact h3
theorem CR.get{E:Env}{cells:List AV}{arr:Array Value}(h:CR E cells arr):cells.length<=arr.size:=by
 cases hcl:cells.length with
 |zero=>omega
 |succ m=>
  obtain⟨v,hv,_⟩:=h m (cells[m]'(by omega)) (zJ (by omega))
  have:=(Array.getElem?_eq_some_iff.1 hv).1
  omega
theorem Step.alloc{E:Env}{h:AH}{M:Nat->Prop}{w:World}(hr:Rel E h w){o:AO}(hk:o.kind=.row){arr:Array Value}(hc:CR E o.cells arr) :
  Step E h M w (E.put h.next ⟨w.heap.size,arr.size,o.sz,0⟩) (h.alloc o) (w.alloc (.cells arr o.ty)):=
 Step.allocO hr _ _ _ fun _ _ hE hw=>OR.of_row hk ⟨arr,(0,0),hw,fun _=>⟨rfl,rfl,rfl⟩,hc.get,rfl,CR.toB fun i c hi=>let ⟨v,a,b,d⟩:=hc i c hi;⟨v,a,b.mono hE,d⟩⟩
def putCells(cells:List AV)(off:Nat):List AV->List AV
 |[]=>cells
 |v::vs=>putCells (cells.set off v) (off+1) vs
theorem putCells_length(vs:List AV):∀(cells:List AV)(off:Nat),(putCells cells off vs).length=cells.length:=by
 induction vs with
 |nil=>intro cells off;rfl
 |cons v vs ih=>intro cells off;simp[putCells,ih]
def AH.put(h:AH)(id off:Nat)(vs:List AV):AH:=h.upd id fun o=>{ o with cells:=putCells o.cells off vs }
theorem heap_setCell(w:World)(a:Addr)(v:Value){arr:Array Value}{T:TypeId}{fz:Nat×Nat}(h:w.heap[a.block]?=some (.cells arr T fz))(hs:a.spot=none) :
  (w.setCell a v).heap[a.block]?=some (.cells (arr.setIfInBounds a.off v) T fz):=by
 simp[World.setCell,Array.getElem?_modify,h,hs]
theorem Step.set1{E:Env}{h:AH}{M:Nat->Prop}{w:World}(hr:Rel E h w){id off:Nat}{B:Blk}{o:AO}{c:AV}{v:Value}
  (ho:h.obj id=some o) (hB:E id=some B) (hk:o.kind=.row) (hro:o.ro=false) (hM:M id) (hoff:off<o.cells.length) (hv:VR E c v) (h1:v.oneCell'=true) :
  Step E h M w E (h.put id off [c]) (w.setCell ⟨B.b,off,none⟩ v)/\(∃u,w.cell? ⟨B.b,off,none⟩=some u)/\w.frozen? ⟨B.b,off,none⟩=false:=by
 obtain⟨B',hB',hO⟩:=hr.obj id o ho
 obtain⟨arr,fz,hb,hfz,hle,hsz,hcr⟩:=hO.row hk
 rw[hB]at hB';cases hB'
 obtain⟨hfz,hn,hB0⟩:=hfz hro
 subst hfz
 have hcr:=hcr.zero hB0
 have hget:o.cells[off]?=some (o.cells[off]):=zJ hoff
 obtain⟨u,hu,_,_⟩:=hcr _ _ hget
 have hin:off<arr.size:=(Array.getElem?_eq_some_iff.1 hu).1
 refine⟨⟨fun _ _ h=>h,⟨?_,?_,hr.fresh⟩,zU _,?_,?_,rfl,rfl,rfl,by simp[World.setCell],?_,?_,?_⟩,⟨u,by simp[World.cell?,hb,hu]⟩,?_⟩
 ·intro i o' ho'
  simp only[AH.put,AH.upd]at ho'
  by_cases e:i=id
  ·subst e
   rw[zX rfl,ho]at ho'
   simp only[yB,zQ]at ho'
   subst ho'
   refine⟨B,hB,OR.of_row hk ⟨_,(0,0),heap_setCell w ⟨B.b,off,none⟩ v hb rfl,fun _=>⟨rfl,by simpa using hn,hB0⟩,by simpa[putCells] using hle,hsz,?_⟩⟩
   rw[hB0]
   refine CR.toB ?_
   intro k d hk
   simp only[putCells,List.getElem?_set]at hk
   by_cases ek:off=k
   ·subst ek
    rw[zX rfl,zX hoff]at hk
    cases hk
    exact⟨v,by simp[hin],hv,h1⟩
   ·rw[zW ek]at hk
    obtain⟨u',hu',hvr,hone⟩:=hcr k d hk
    exact⟨u',by rw[Array.getElem?_setIfInBounds_ne ek];exact hu',hvr,hone⟩
  ·rw[zW e]at ho'
   obtain⟨B',hB',hO⟩:=hr.obj i o' ho'
   refine⟨B',hB',hO.mono (fun _ _ h=>h) ?_⟩
   exact RowKit.Below.heap_setCell _ _ _ _ (fun hbb=>(hr.inj i id o' o B' B ho' ho hB' hB hbb).elim e (fun hh=>by rw[hro]at hh;cases hh.2))
 ·intro i j oi oj Bi Bj h1 h2
  simp only[AH.put,AH.upd]at h1 h2
  have some':∀i oi,(if i=id then Option.map (fun o=>({ o with cells:=putCells o.cells off [c] }:AO)) (h.obj i) else h.obj i)=some oi->∃o',h.obj i=some o'/\o'.ro=oi.ro:=by
   intro i oi hi
   split at hi
   ·cases ho:h.obj i with
    |none=>rw[ho]at hi;cases hi
    |some o'=>rw[ho]at hi;simp only[yB,zQ]at hi;subst hi;exact⟨o',rfl,rfl⟩
   ·exact⟨oi,hi,rfl⟩
  obtain⟨a,ha,ra⟩:=some' i oi h1
  obtain⟨b,hb,rb⟩:=some' j oj h2
  rw[<-ra,<-rb]
  exact hr.inj i j a b Bi Bj ha hb
 ·intro i _ hm
  simp only[AH.put,AH.upd]
  rw[zW (fun(e:i=id)=>hm (e ▸ hM))]
 ·intro i _ h0
  simp only[AH.put,AH.upd]
  rw[h0];simp
 ·intro b _ hno
  exact RowKit.Below.heap_setCell _ _ _ _ (fun hbb=>hno id B o hM ho hro hB hbb.symm)
 ·intro i C oi hi _ _ hge
  simp only[AH.put,AH.upd]at hi
  have:h.obj i≠none:=fun h0=>by rw[h0]at hi;simp at hi
  have:=AH.lt' this
  omega
 ·intro i o1 o2 h1' h2' h3'
  simp only[AH.put,AH.upd]at h2'
  split at h2'
  ·rw[h1']at h2';simp only[yB,zQ]at h2';subst h2';exact h3'
  ·rw[h1']at h2';cases h2';exact h3'
 ·simp[World.frozen?,hb]
theorem AH.put_put(h:AH)(id off:Nat)(c:AV)(cs:List AV):(h.put id off [c]).put id (off+1) cs=h.put id off (c::cs):=by
 unfold AH.put AH.upd
 congr 1
 funext i
 by_cases e:i=id<;>simp[e,putCells,Option.map_map,Function.comp_def]
theorem AH.put_nil(h:AH)(id off:Nat):h.put id off []=h:=by
 cases h with
 |mk obj next lt=>
  unfold AH.put AH.upd
  congr 1
  funext i
  by_cases e:i=id
  ·subst e;cases ho:obj i<;>simp[ho,putCells]
  ·simp[e]
theorem AH.put_obj(h:AH)(id off:Nat)(cs:List AV)(i:Nat):(h.put id off cs).obj i=if i=id then(h.obj i).map (fun o=>{ o with cells:=putCells o.cells off cs }) else h.obj i:=rfl
theorem run_storeCells{P:Program}{E:Env}{M:Nat->Prop}{id:Nat}{B:Blk}(a:Addr)(hM:M id)(hB:E id=some B)(hab:a.block=B.b)(hsp:a.spot=none) :
  ∀(cs:List AV)(vs:List Value)(k:Nat)(h:AH)(w:World)(o:AO),Rel E h w->h.obj id=some o->o.kind=.row->o.ro=false->VRs E cs vs->(∀v∈vs,v.oneCell'=true) ->
   a.off+k+cs.length<=o.cells.length ->
   ∃w',(storeCells a vs k).run P w=.ok () w'/\Step E h M w E (h.put id (a.off+k) cs) w':=by
 intro cs
 induction cs with
 |nil=>
  intro vs k h w o hr ho hk hro hv h1 hlen
  cases hv
  exact⟨w,by simp[storeCells],by rw[AH.put_nil];exact Step.refl hr⟩
 |cons c cs ih=>
  intro vs k h w o hr ho hk hro hv h1 hlen
  cases hv with
  |cons hv1 hv2=>
   rename_i v vs
   simp only[List.length_cons]at hlen
   have hone:=h1 v (by simp)
   have haddr:a.add k=⟨B.b,a.off+k,none⟩:=by
    cases a with
    |mk blk off spot=>
     simp only at hab hsp
     subst hab hsp
     unfold Addr.add
     by_cases hk:k=0<;>simp[hk]
   obtain⟨hs,⟨u,hu⟩,hf⟩:=Step.set1 (M:=M) hr ho hB hk hro hM (off:=a.off+k) (by omega) hv1 hone
   have ho':(h.put id (a.off+k) [c]).obj id=some { o with cells:=putCells o.cells (a.off+k) [c] }:=by simp[AH.put_obj,ho]
   obtain⟨w',hrun,hst⟩:=ih vs (k+1) (h.put id (a.off+k) [c]) _ _ hs.rel ho' hk hro hv2 (fun v hv=>h1 v (by simp[hv])) (by simp only[putCells_length];omega)
   refine⟨w',?_,?_⟩
   ·have:(storeCells a (v::vs) k).run P w=(storeCells a vs (k+1)).run P (w.setCell ⟨B.b,a.off+k,none⟩ v):=by
     simp only[storeCells,haddr,store,bind,Sem.bind]
     cases v<;>simp_all [Sem.run,Value.oneCell']
    rw[this];exact hrun
   ·rw[<-Nat.add_assoc,AH.put_put]at hst
    exact hs.trans hr hst (fun id' hlt hm=>.inl hm)
end
section
abbrev AV.i(n:Int):AV:=.sc (.int .i64 n)
abbrev AV.b(t:Bool):AV:=.sc (.bool t)
abbrev AV.s(s:ByteArray):AV:=.sc (.string s)
def lift:Value->AV
 |.agg cs=>.agg (cs.toList.map .sc)
 |v=>.sc v
theorem VRs.lift(E:Env):∀l:List Value,VRs E (l.map .sc) l
 |[]=>.nil
 |v::l=>.cons (.sc v) (VRs.lift E l)
theorem VR.lift(E:Env)(v:Value):VR E (lift v) v:=by
 cases v<;>first |exact .sc _ |skip
 rename_i cs
 exact .agg (vs:=cs.toList) (VRs.lift E _)
def avCells:AV->Option (List AV)
 |.agg l=>some l
 |.sc (.agg _)=>none
 |a=>some [a]
theorem VR.cells{E:Env}{a:AV}{v:Value}(h:VR E a v){l:List AV}(hl:avCells a=some l):VRs E l v.cells.toList:=by
 cases h with
 |agg h=>simp only[avCells,zQ]at hl;subst hl;simpa[Value.cells] using h
 |sc v=>cases v<;>simp[avCells]at hl<;>subst hl<;>exact .cons (.sc _) .nil
 |ptr h=>simp only[avCells,zQ]at hl;subst hl;exact .cons (.ptr h) .nil
 |sl h a b c d=>simp only[avCells,zQ]at hl;subst hl;exact .cons (.sl h a b c d) .nil
 |tup h=>simp only[avCells,zQ]at hl;subst hl;exact .cons (.tup h) .nil
 |ifc h=>simp only[avCells,zQ]at hl;subst hl;exact .cons (.ifc h) .nil
 |fn h k=>simp only[avCells,zQ]at hl;subst hl;exact .cons (.fn h k) .nil
 |mp h=>simp only[avCells,zQ]at hl;subst hl;exact .cons (.mp h) .nil
def szOf(P:Program)(t:TypeId):Option Nat:=(P.info? t).map (·.size)
def aggOf(P:Program)(t:TypeId):Option Bool:=(P.underlying t).map fun d=>match d with |.struct _ |.array _ _=>true |_=>false
def fOff(P:Program)(s:TypeId)(k:Nat):Option Nat:=
 match P.underlying s with
 |some (.struct fs)=>match fs[k]? with
  |some f=>match szOf P f.type with
   |some 0=>none
   |some _=>some f.offset
   |none=>none
  |none=>none
 |_=>none
def ixOf(P:Program)(t:TypeId):Option (Nat×Option Nat):=
 match P.underlying t with
 |some (.slice e)=>(szOf P e).map fun s=>(s,none)
 |some (.array n e)=>(szOf P e).map fun s=>(s,some n)
 |_=>none
def fSub(P:Program)(s:TypeId)(k:Nat):Option (Nat×Nat×Bool):=
 match P.underlying s with
 |some (.struct fs)=>match fs[k]? with
  |some f=>match szOf P f.type,aggOf P f.type with
   |some n,some g=>some (f.offset,n,g)
   |_,_=>none
  |none=>none
 |_=>none
def isStr(P:Program)(t:TypeId):Bool:=match P.underlying t with |some .string=>true |_=>false
def isBoolT(P:Program)(t:TypeId):Bool:=match P.underlying t with |some .bool=>true |_=>false
def intOfT(P:Program)(t:TypeId):Option IntKind:=match P.underlying t with |some (.int k)=>some k |_=>none
def slOf(P:Program)(t:TypeId):Option Nat:=match P.underlying t with |some (.slice e)=>szOf P e |_=>none
def zeroOf(P:Program)(t:TypeId):Option (List Value):=(P.info? t).bind fun i=>i.zero.map (·.cells.toList)
def bldOf(P:Program)(t:TypeId):Option (List Value×(List (Nat×Nat) ⊕ Nat)):=
 match zeroOf P t,P.underlying t with
 |some z,some (.struct fs)=>(fs.toList.mapM fun f=>(szOf P f.type).map fun n=>(f.offset,n)).map fun l=>(z,.inl l)
 |some z,some (.array _ e)=>(szOf P e).map fun n=>(z,.inr n)
 |_,_=>none
def appOf(P:Program)(t:TypeId):Option (Nat×Nat×TypeId):=
 match P.underlying t with
 |some (.slice e)=>match P.info? e with
  |some i=>match i.zero with
   |some z=>if z.cells.size=i.size/\0<i.size then some (i.size,i.bytes,e) else none
   |none=>none
  |none=>none
 |_=>none
def isU8T(P:Program)(t:TypeId):Bool:=match P.underlying t with |some (.int .u8)=>true |_=>false
def b2sT(P:Program)(s d:TypeId):Bool:=match P.underlying s,P.underlying d with
 |some (.slice e),some .string=>isU8T P e
 |_,_=>false
def appSOf(P:Program)(t u:TypeId):Option TypeId:=
 match P.underlying t,P.underlying u with
 |some (.slice e),some .string=>match P.info? e with
  |some i=>match i.zero with
   |some (.int .u8 0)=>if i.size=1/\i.bytes=1 then some e else none
   |_=>none
  |none=>none
 |_,_=>none
def isIfaceT(P:Program)(t:TypeId):Option Bool:=(P.underlying t).map fun d=>match d with |.interface _=>true |_=>false
def isSliceT(P:Program)(t:TypeId):Bool:=match P.underlying t with |some (.slice _)=>true |_=>false
def isPtrT(P:Program)(t:TypeId):Bool:=match P.underlying t with |some (.pointer _)=>true |_=>false
theorem szOf_run{P:Program}{t:TypeId}{n:Nat}(h:szOf P t=some n)(w:World):(sizeOf t).run P w=.ok n w:=by
 unfold szOf at h
 cases hi:P.info? t with
 |none=>rw[hi]at h;cases h
 |some i=>rw[hi]at h;simp only[yB,zQ]at h;subst h;simp[sizeOf,typeInfo,hi]
theorem under_run{P:Program}{t:TypeId}{d:TypeDesc}(h:P.underlying t=some d)(w:World):(underlying t).run P w=.ok d w:=run_underlying h w
theorem aggOf_run{P:Program}{t:TypeId}{g:Bool}(h:aggOf P t=some g)(w:World):(isAgg t).run P w=.ok g w:=by
 unfold aggOf at h
 cases hd:P.underlying t with
 |none=>rw[hd]at h;cases h
 |some d=>
  rw[hd]at h;simp only[yB,zQ]at h;subst h
  simp only[isAgg,Sem.run_bind,under_run hd,Result.andThen_ok]
  cases d<;>rfl
def pPick(c a b:AV)(K:AV->Prop):Prop:=
 match c with
 |.sc (.bool t)=>K (if t then a else b)
 |_=>False
def pNil(x:AV)(K:AV->Prop):Prop:=
 match x with
 |.ptr i o=>K (.ptr i o)
 |.fn (.func f) a b=>K (.fn (.func f) a b)
 |.ifc t v=>K (.ifc t v)
 |_=>False
def pFld(d:Option Nat)(x:AV)(K:AV->Prop):Prop:=
 match d,x with
 |some d,.ptr i o=>K (.ptr i (o+d))
 |_,_=>False
def pIxA(s:Option (Nat×Option Nat))(x i:AV)(K:AV->Prop):Prop:=
 match s,x,i with
 |some (sz,none),.sl id off len,.sc (.int _ n)=>(0<=n/\n<(len:Int))/\K (.ptr id (off+n.toNat*sz))
 |some (sz,some len),.ptr id off,.sc (.int _ n)=>(0<=n/\n<(len:Int))/\K (.ptr id (off+n.toNat*sz))
 |_,_,_=>False
def pIxS(str:Bool)(x i:AV)(K:AV->Prop):Prop:=
 match str,x,i with
 |true,.sc (.string s),.sc (.int _ n)=>∃c:UInt8,(0<=n/\s[n.toNat]?=some c)/\K (.sc (.int .u8 c.toNat))
 |_,_,_=>False
def pFdV(d:Option (Nat×Nat×Bool))(x:AV)(K:AV->Prop):Prop:=
 match d,x with
 |some (o,n,true),.agg l=>K (.agg ((l.drop o).take n))
 |some (o,_,false),.agg l=>∃c,l[o]?=some c/\K c
 |_,_=>False
def pExt(x:AV)(k:Nat)(K:AV->Prop):Prop:=
 match x with
 |.tup l=>∃c,l[k]?=some c/\K c
 |_=>False
def pUn(op:UnOp)(x:AV)(K:AV->Prop):Prop:=
 match op,x with
 |.not,.sc (.bool t)=>K (.sc (.bool !t))
 |.neg,.sc (.int k n)=>K (.sc (.int k (k.wrap (0-n))))
 |_,_=>False
def bnd(x:Option AV)(dflt:Nat):Option Int:=
 match x with
 |none=>some dflt
 |some (.sc (.int _ n))=>some n
 |_=>none
def pSlS(x:AV)(lo hi:Option AV)(K:AV->Prop):Prop:=
 match x with
 |.sc (.string s)=>∃l h:Int,bnd lo 0=some l/\bnd hi s.size=some h/\(0<=l/\l<=h/\h<=(s.size:Int))/\K (.sc (.string (s.extract l.toNat h.toNat)))
 |_=>False
def pSlL(sz:Option Nat)(x:AV)(lo hi:Option AV)(h:AH)(K:AV->Prop):Prop:=
 match sz,x with
 |some sz,.sl id off len=>∃l u:Int,bnd lo 0=some l/\bnd hi len=some u /\
   (0<=l/\l<=u/\((l=0/\u<=(len:Int))\/∃o,h.obj id=some o/\o.kind=.row/\o.sz=sz/\0<sz/\(u<=(len:Int)\/off+u.toNat*sz<=o.cells.length))) /\
   K (.sl id (off+l.toNat*sz) (u.toNat-l.toNat))
 |some _,.sc (.slice none 0 0)=>bnd lo 0=some 0/\bnd hi 0=some 0/\K (.sc (.slice none 0 0))
 |_,_=>False
def pLen(x:AV)(K:AV->Prop):Prop:=
 match x with
 |.sl _ _ len=>K (.i len)
 |.sc (.slice _ n _)=>K (.i n)
 |.sc (.string s)=>K (.i s.size)
 |_=>False
def pMkI(d:Option Bool)(t:TypeId)(x:AV)(K:AV->Prop):Prop:=
 match d with
 |some false=>K (.ifc t x)
 |_=>False
def fldEq(P:Program):Nat->List Field->Option (List Bool)
 |_,[]=>some []
 | o, f :: fs => if f.name ≠ "_" ∧ f.offset = o then
   (match P.underlying f.type with
   |some .string=>(fldEq P (o+1) fs).map (true::·)
   |some (.int _)=>(fldEq P (o+1) fs).map (false::·)
   |_=>none) else none
def flatEq(P:Program)(t:TypeId):Option (List Bool):=
 if P.eqGuardType P.depth t=false/\P.stoodInHeld t=false then
  (match P.underlying t with
  |some (.struct fs)=>fldEq P 0 fs.toList
  |_=>none) else none
def aggEq:List Bool->List AV->List AV->Option Bool
 |[],_,_=>some true
 |true::ks,.sc (.string a)::xs,.sc (.string b)::ys=>(aggEq ks xs ys).map (decide (a=b)&&·)
 |false::ks,.sc (.int k a)::xs,.sc (.int k' b)::ys=>if k=k' then(aggEq ks xs ys).map ((a==b)&&·) else none
 |_,_,_=>none
def aggCmp(P:Program)(t:TypeId)(xs ys:List AV):Option Bool:=(flatEq P t).bind fun ks=>aggEq ks xs ys
def pBin(P:Program)(op:BinOp)(t:TypeId)(cst:Bool)(x y:AV)(K:AV->Prop):Prop:=
 match op,x,y with
 |.add,.sc (.int k a),.sc (.int k' b)=>k=k'/\K (.sc (.int k (k.wrap (a+b))))
 |.sub,.sc (.int k a),.sc (.int k' b)=>k=k'/\K (.sc (.int k (k.wrap (a-b))))
 |.mul,.sc (.int k a),.sc (.int k' b)=>k=k'/\K (.sc (.int k (k.wrap (a*b))))
 |.quo,.sc (.int k a),.sc (.int k' b)=>k=k'/\b≠0/\K (.sc (.int k (k.wrap (a.tdiv b))))
 |.rem,.sc (.int k a),.sc (.int k' b)=>k=k'/\b≠0/\K (.sc (.int k (a.tmod b)))
 |.and,.sc (.int k a),.sc (.int k' b)=>k=k'/\K (.sc (.int k (k.wrap (BitVec.ofInt k.bits a &&& BitVec.ofInt k.bits b).toNat)))
 |.or,.sc (.int k a),.sc (.int k' b)=>k=k'/\K (.sc (.int k (k.wrap (BitVec.ofInt k.bits a |||BitVec.ofInt k.bits b).toNat)))
 |.xor,.sc (.int k a),.sc (.int k' b)=>k=k'/\K (.sc (.int k (k.wrap (BitVec.ofInt k.bits a ^^^ BitVec.ofInt k.bits b).toNat)))
 |.andNot,.sc (.int k a),.sc (.int k' b)=>k=k'/\K (.sc (.int k (k.wrap (BitVec.ofInt k.bits a &&& ~~~ BitVec.ofInt k.bits b).toNat)))
 |.shl,.sc (.int k a),.sc (.int _ b)=>0<=b/\K (.sc (.int k (k.wrap (a*2^(min b.toNat k.bits)))))
 |.shr,.sc (.int k a),.sc (.int _ b)=>0<=b/\K (.sc (.int k (a.fdiv (2^(min b.toNat k.bits)))))
 |.eql,.sc (.int k a),.sc (.int k' b)=>k=k'/\K (.b (a==b))
 |.neq,.sc (.int k a),.sc (.int k' b)=>k=k'/\K (.b (a != b))
 |.lss,.sc (.int k a),.sc (.int k' b)=>k=k'/\K (.b (decide (a<b)))
 |.leq,.sc (.int k a),.sc (.int k' b)=>k=k'/\K (.b (decide (a<=b)))
 |.gtr,.sc (.int k a),.sc (.int k' b)=>k=k'/\K (.b (decide (a > b)))
 |.geq,.sc (.int k a),.sc (.int k' b)=>k=k'/\K (.b (decide (a>=b)))
 |.eql,.sc (.string a),.sc (.string b)=>K (.b (decide (a=b)))
 |.neq,.sc (.string a),.sc (.string b)=>K (.b (!decide (a=b)))
 |.add,.sc (.string a),.sc (.string b)=>a.size+b.size<9223372036854775808/\K (.s (a++b))
 |.eql,.sc (.bool a),.sc (.bool b)=>isBoolT P t=true/\K (.b (a==b))
 |.neq,.sc (.bool a),.sc (.bool b)=>isBoolT P t=true/\K (.b (!(a==b)))
 |.eql,.sc (.slice none _ _),.sc (.slice none _ _)=>isSliceT P t=true/\K (.b true)
 |.neq,.sc (.slice none _ _),.sc (.slice none _ _)=>isSliceT P t=true/\K (.b false)
 |.eql,.sl _ _ _,.sc (.slice none _ _)=>isSliceT P t=true/\K (.b false)
 |.neq,.sl _ _ _,.sc (.slice none _ _)=>isSliceT P t=true/\K (.b true)
 |.eql,.ptr _ _,.sc (.pointer none)=>isPtrT P t=true/\K (.b false)
 |.neq,.ptr _ _,.sc (.pointer none)=>isPtrT P t=true/\K (.b true)
 |.eql,.sc (.pointer none),.sc (.pointer none)=>isPtrT P t=true/\K (.b true)
 |.neq,.sc (.pointer none),.sc (.pointer none)=>isPtrT P t=true/\K (.b false)
 |.eql,.ifc _ _,.sc .nilIface=>isIfaceT P t=some true/\K (.b false)
 |.neq,.ifc _ _,.sc .nilIface=>isIfaceT P t=some true/\K (.b true)
 |.eql,.sc .nilIface,.sc .nilIface=>cst=true/\isIfaceT P t=some true/\K (.b true)
 |.neq,.sc .nilIface,.sc .nilIface=>cst=true/\isIfaceT P t=some true/\K (.b false)
 |.eql,.agg xs,.agg ys=>(aggCmp P t xs ys).isSome=true/\K (.b ((aggCmp P t xs ys).getD false))
 |.neq,.agg xs,.agg ys=>(aggCmp P t xs ys).isSome=true/\K (.b (!(aggCmp P t xs ys).getD false))
 |_,_,_=>False
def pMM(mn:Bool)(x y:AV)(K:AV->Prop):Prop:=
 match x,y with
 |.sc (.int k a),.sc (.int k' b)=>k=k'/\K (.sc (.int k (if mn then(if b<a then b else a) else(if a<b then b else a))))
 |_,_=>False
def pCnv(k:Option IntKind)(x:AV)(K:AV->Prop):Prop:=
 match k,x with
 |some k,.sc (.int _ n)=>K (.sc (.int k (k.wrap n)))
 |_,_=>False
def pTA(d:Option Bool)(T:TypeId)(ok:Bool)(x:AV)(K:AV->Prop):Prop:=
 match d,x with
 |some false,.ifc t v=>t=T/\K (if ok then .tup [v,.b true] else v)
 |_,_=>False
end
section
variable {P:Program} {E:Env} {h:AH} {w0:World} {K:AV->Prop}
def PS(P:Program)(E:Env)(s:Sem Value)(K:AV->Prop):Prop:=∃av u,VR E av u/\K av/\∀w,s.run P w=.ok u w
theorem pPick_ok{c a b:AV}{cv av bv:Value}(hc:VR E c cv)(ha:VR E a av)(hb:VR E b bv)(hp:pPick c a b K) :
  PS P E (do pure (if <-asBool cv then av else bv)) K:=by
 unfold pPick at hp
 split at hp
 ·rename_i t
  cases hc
  refine⟨_,if t then av else bv,?_,hp,fun w=>by simp[asBool]⟩
  cases t
  ·simpa using hb
  ·simpa using ha
 ·exact hp.elim
theorem pFld_ok{s k:Nat}{x:AV}{v:Value}(hx:VR E x v)(hp:pFld (fOff P s k) x K):PS P E (Instr.fieldAt s v k) K:=by
 unfold pFld at hp
 split at hp
 ·rename_i d id off hd
  unfold fOff at hd
  split at hd<;>try cases hd
  rename_i fs hu
  split at hd<;>try cases hd
  rename_i f hf
  split at hd<;>try cases hd
  rename_i n hn hz
  cases hx with
  |ptr hB=>
   rename_i B
   refine⟨_,_,.ptr (off:=off+f.offset) hB,hp,fun w=>?_⟩
   have hz':¬n=0:=fun e=>hn (by rw[e])
   simp only[Instr.fieldAt,Sem.run_bind,under_run hu,Result.andThen_ok,hf,Instr.sureAddr,fieldPlace,szOf_run hz,hz',Sem.run_pure,if_false]
   unfold Addr.add
   by_cases h0:f.offset=0<;>simp[h0,Nat.add_assoc]
 ·exact hp.elim
theorem pIxA_ok{t:Nat}{x i:AV}{v iv:Value}(hx:VR E x v)(hi:VR E i iv)(hp:pIxA (ixOf P t) x i K):PS P E (Instr.indexAt t v iv) K:=by
 unfold pIxA at hp
 split at hp
 ·rename_i sz id off len k n he
  obtain⟨⟨h0,h1⟩,hp⟩:=hp
  unfold ixOf at he
  split at he
  ·rename_i e hu
   cases hz:szOf P e with
   |none=>rw[hz]at he;cases he
   |some s=>
    rw[hz]at he;simp only[yB,zQ,Prod.mk.injEq,zI]at he;subst he
    cases hi
    cases hx with
    |sl hB ho hc hl hm=>
     rename_i o cap B
     refine⟨_,_,.ptr (off:=off+n.toNat*s) hB,hp,fun w=>?_⟩
     have ho:o=B.o+off:=by omega
     subst ho
     simp only[Instr.indexAt,asIntOf,Sem.run_bind,Sem.run_pure,under_run hu,Result.andThen_ok,h0,h1,and_self,zV,szOf_run hz]
     unfold Addr.add
     by_cases h0:n.toNat*s=0<;>simp[h0,Nat.add_assoc]
  ·cases hz:szOf P _<;>rw[hz]at he<;>simp at he
  ·cases he
 ·rename_i sz len id off k n he
  obtain⟨⟨h0,h1⟩,hp⟩:=hp
  unfold ixOf at he
  split at he
  ·cases hz:szOf P _<;>rw[hz]at he<;>simp at he
  ·rename_i m e hu
   cases hz:szOf P e with
   |none=>rw[hz]at he;cases he
   |some s=>
    rw[hz]at he;simp only[yB,zQ,Prod.mk.injEq]at he;obtain⟨rfl,he⟩:=he;cases he
    cases hi
    cases hx with
    |ptr hB=>
     rename_i B
     refine⟨_,_,.ptr (off:=off+n.toNat*s) hB,hp,fun w=>?_⟩
     simp only[Instr.indexAt,asIntOf,Sem.run_bind,Sem.run_pure,under_run hu,Result.andThen_ok,h0,h1,and_self,zV,szOf_run hz,Instr.sureAddr]
     unfold Addr.add
     by_cases h0:n.toNat*s=0<;>simp[h0,Nat.add_assoc]
  ·cases he
 ·exact hp.elim
theorem pIxS_ok{t:Nat}{x i:AV}{v iv:Value}(hx:VR E x v)(hi:VR E i iv)(hp:pIxS (isStr P t) x i K):PS P E (Instr.index t v iv) K:=by
 unfold pIxS at hp
 split at hp
 ·rename_i s k n he
  obtain⟨c,⟨h0,h1⟩,hp⟩:=hp
  unfold isStr at he
  split at he
  ·rename_i hu
   cases hi;cases hx
   refine⟨_,_,.sc _,hp,fun w=>?_⟩
   simp[Instr.index,asIntOf,under_run hu,h0,h1]
  ·cases he
 ·exact hp.elim
theorem VRs.drop_take{l:List AV}{vs:List Value}(h:VRs E l vs)(o n:Nat):VRs E ((l.drop o).take n) ((vs.drop o).take n):=by
 refine VRs.of_get _ _ (by simp[h.length]) fun i a v h1 h2=>?_
 rw[List.getElem?_take]at h1 h2
 split at h1
 ·rename_i hi
  simp only[hi,zV,List.getElem?_drop]at h1 h2
  obtain⟨u,hu,hv⟩:=h.get h1
  rw[hu]at h2;cases h2;exact hv
 ·cases h1
theorem pFdV_ok{s k:Nat}{x:AV}{v:Value}(hx:VR E x v)(hp:pFdV (fSub P s k) x K):PS P E (Instr.field s v k) K:=by
 have key:∀o n g,fSub P s k=some (o,n,g)->∃fs f,P.underlying s=some (.struct fs)/\fs[k]?=some f/\f.offset=o/\szOf P f.type=some n/\aggOf P f.type=some g:=by
  intro o n g he
  unfold fSub at he
  split at he<;>try cases he
  rename_i fs hu
  split at he<;>try cases he
  rename_i f hf
  split at he<;>try cases he
  rename_i n' g' h1 h2
  exact⟨fs,f,hu,hf,rfl,h1,h2⟩
 unfold pFdV at hp
 split at hp
 ·rename_i o n l he
  obtain⟨fs,f,hu,hf,rfl,h1,h2⟩:=key _ _ _ he
  cases hx with
  |agg hl=>
   rename_i vs
   refine⟨_,.agg ((vs.drop f.offset).take n).toArray,.agg (hl.drop_take _ _),hp,fun w=>?_⟩
   simp only[Instr.field,Sem.run_bind,under_run hu,Result.andThen_ok,hf,asAgg,Sem.run_pure,part,aggOf_run h2,szOf_run h1,zV]
   congr 2
   apply Array.ext'
   simp[List.extract_eq_take_drop]
 ·rename_i o n l he
  obtain⟨fs,f,hu,hf,rfl,h1,h2⟩:=key _ _ _ he
  obtain⟨c,hc,hp⟩:=hp
  cases hx with
  |agg hl=>
   rename_i vs
   obtain⟨u,hu',hv⟩:=hl.get hc
   refine⟨_,u,hv,hp,fun w=>?_⟩
   simp only[Instr.field,Sem.run_bind,under_run hu,Result.andThen_ok,hf,asAgg,Sem.run_pure,part,aggOf_run h2,zE,if_false,List.getElem?_toArray,hu']
 ·exact hp.elim
theorem pExt_ok{x:AV}{v:Value}{k:Nat}(hx:VR E x v)(hp:pExt x k K):PS P E (Instr.extract v k) K:=by
 unfold pExt at hp
 split at hp
 ·obtain⟨c,hc,hp⟩:=hp
  cases hx with
  |tup hl=>
   obtain⟨u,hu,hv⟩:=hl.get hc
   exact⟨_,u,hv,hp,fun w=>by simp[Instr.extract,hu]⟩
 ·exact hp.elim
theorem pUn_ok{op:UnOp}{x:AV}{v:Value}(hx:VR E x v)(hp:pUn op x K):PS P E (Op.unary op v) K:=by
 unfold pUn at hp
 split at hp
 ·cases hx;exact⟨_,_,.sc _,hp,fun w=>by simp[Op.unary]⟩
 ·cases hx;exact⟨_,_,.sc _,hp,fun w=>by simp[Op.unary,Op.intArith]⟩
 ·exact hp.elim
theorem pLen_ok{t ty:TypeId}{x:AV}{v:Value}(hx:VR E x v)(ht:(isStr P t||isSliceT P t)=true)(hs:isStr P t=true↔∃s,x=.sc (.string s))(hp:pLen x K) :
  PS P E (Builtin.len_ #[t] ty #[v]) K:=by
 have hsl:(¬ ∃s,x=.sc (.string s))->∃e,P.underlying t=some (.slice e):=by
  intro hn
  have:isStr P t=false:=by cases h:isStr P t;rfl;exact absurd (hs.1 h) hn
  rw[this,Bool.false_or]at ht
  unfold isSliceT at ht
  split at ht
  ·exact⟨_,by assumption⟩
  ·cases ht
 unfold pLen at hp
 split at hp
 ·obtain⟨e,he⟩:=hsl (by rintro⟨s,h⟩;cases h)
  cases hx
  exact⟨_,_,.sc _,hp,fun w=>by simp[Builtin.len_,under_run he,goInt]⟩
 ·obtain⟨e,he⟩:=hsl (by rintro⟨s,h⟩;cases h)
  cases hx
  exact⟨_,_,.sc _,hp,fun w=>by simp[Builtin.len_,under_run he,goInt]⟩
 ·have:=hs.2 ⟨_,rfl⟩
  unfold isStr at this
  split at this
  ·rename_i he
   cases hx
   exact⟨_,_,.sc _,hp,fun w=>by simp[Builtin.len_,under_run he,goInt]⟩
  ·cases this
 ·exact hp.elim
theorem pMkI_ok{t:TypeId}{x:AV}{v:Value}(hx:VR E x v)(hp:pMkI (isIfaceT P t) t x K):PS P E (Instr.makeInterface t v) K:=by
 unfold pMkI at hp
 split at hp
 ·rename_i he
  unfold isIfaceT at he
  cases hd:P.underlying t with
  |none=>rw[hd]at he;cases he
  |some d=>
   rw[hd]at he
   refine⟨_,_,.ifc hx,hp,fun w=>?_⟩
   simp only[Instr.makeInterface,Sem.run_bind,under_run hd,Result.andThen_ok]
   cases d<;>simp at he ⊢
 ·exact hp.elim
theorem pCnv_ok{s d:TypeId}{x:AV}{v:Value}(hx:VR E x v)(hs:(P.underlying s).isSome=true)(hp:pCnv (intOfT P d) x K):PS P E (convert s d v) K:=by
 unfold pCnv at hp
 split at hp
 ·rename_i k k' n he
  unfold intOfT at he
  split at he
  ·rename_i k2 hd
   cases he
   cases hx
   obtain⟨ds,hds⟩:=Option.isSome_iff_exists.1 hs
   refine⟨_,_,.sc _,hp,fun w=>?_⟩
   simp only[convert,Sem.run_bind,under_run hds,under_run hd,Result.andThen_ok]
   simp[Conv.intToInt]
  ·cases he
 ·exact hp.elim
theorem pMM_ok{mn:Bool}{ts:Array TypeId}{ty:TypeId}{x y:AV}{v u:Value}(hx:VR E x v)(hy:VR E y u)(hp:pMM mn x y K):PS P E (if mn then Builtin.min_ ts ty #[v,u] else Builtin.max_ ts ty #[v,u]) K:=by
 unfold pMM at hp
 split at hp
 ·obtain⟨rfl,hp⟩:=hp
  cases hx;cases hy
  refine⟨_,_,.sc _,hp,fun w=>?_⟩
  cases mn
  ·simp[Builtin.max_,Builtin.max2]
  ·simp[Builtin.min_,Builtin.min2]
 ·exact hp.elim
theorem pTA_ok{xt T:TypeId}{ok:Bool}{x:AV}{v:Value}(hx:VR E x v)(hp:pTA (isIfaceT P T) T ok x K):PS P E (Instr.typeAssert v xt T ok) K:=by
 unfold pTA at hp
 split at hp
 ·rename_i t a he
  obtain⟨rfl,hp⟩:=hp
  unfold isIfaceT at he
  cases hd:P.underlying t with
  |none=>rw[hd]at he;cases he
  |some d=>
   rw[hd]at he
   cases hx with
   |ifc hv=>
    rename_i u
    refine⟨_,(if ok then .tuple #[u,.bool true] else u),?_,hp,fun w=>?_⟩
    ·cases ok
     ·simpa using hv
     ·simp only[zV];exact .tup (vs:=[u,.bool true]) (.cons hv (.cons (.sc _) .nil))
    ·simp only[Instr.typeAssert,Sem.run_bind,under_run hd,Result.andThen_ok]
     cases d<;>simp at he ⊢
 ·exact hp.elim
theorem str_eq(a b:ByteArray):(a.toList==b.toList)=decide (a=b):=by
 rw[ByteArray.toList_eq,ByteArray.toList_eq]
 have:a=b↔a.data.toList=b.data.toList:=by
  constructor
  ·intro h;rw[h]
  ·intro h
   cases a;cases b
   simp only at h
   congr 1
   exact Array.ext' h
 by_cases h:a=b
 ·simp[h]
 ·have h':¬a.data.toList=b.data.toList:=fun e=>h (this.2 e)
  rw[zK h]
  exact beq_eq_false_iff_ne.2 h'
section
variable {t:TypeId} (w:World) (d:Nat)
theorem eqIn_bool(h:P.underlying t=some .bool)(a b:Bool):(Op.equalIn (d+1) t (.bool a) (.bool b)).run P w=.ok (a==b) w:=by simp[Op.equalIn,under_run h]
theorem eqIn_sl1{e:TypeId}(h:P.underlying t=some (.slice e))(x y:Nat)(b:Option Addr)(z u:Nat):(Op.equalIn (d+1) t (.slice none x y) (.slice b z u)).run P w=.ok b.isNone w:=by simp[Op.equalIn,under_run h]
theorem eqIn_sl2{e:TypeId}(h:P.underlying t=some (.slice e))(a:Addr)(x y z u:Nat):(Op.equalIn (d+1) t (.slice (some a) x y) (.slice none z u)).run P w=.ok false w:=by simp[Op.equalIn,under_run h]
theorem eqIn_p1{e:TypeId}(h:P.underlying t=some (.pointer e))(b:Option Addr):(Op.equalIn (d+1) t (.pointer none) (.pointer b)).run P w=.ok b.isNone w:=by simp[Op.equalIn,under_run h]
theorem eqIn_p2{e:TypeId}(h:P.underlying t=some (.pointer e))(a:Addr):(Op.equalIn (d+1) t (.pointer (some a)) (.pointer none)).run P w=.ok false w:=by simp[Op.equalIn,under_run h]
theorem eqIn_i{e:Array (String×TypeId)}(h:P.underlying t=some (.interface e))(T:TypeId)(v:Value):(Op.equalIn (d+1) t (.iface T v) .nilIface).run P w=.ok false w:=by simp[Op.equalIn,under_run h]
theorem eq_bool(h:P.underlying t=some .bool)(a b:Bool):(Op.equal t (.bool a) (.bool b)).run P w=.ok (a==b) w:=eqIn_bool w 9999 h a b
theorem eq_sl1{e:TypeId}(h:P.underlying t=some (.slice e))(x y:Nat)(b:Option Addr)(z u:Nat):(Op.equal t (.slice none x y) (.slice b z u)).run P w=.ok b.isNone w:=eqIn_sl1 w 9999 h x y b z u
theorem eq_sl2{e:TypeId}(h:P.underlying t=some (.slice e))(a:Addr)(x y z u:Nat):(Op.equal t (.slice (some a) x y) (.slice none z u)).run P w=.ok false w:=eqIn_sl2 w 9999 h a x y z u
theorem eq_p1{e:TypeId}(h:P.underlying t=some (.pointer e))(b:Option Addr):(Op.equal t (.pointer none) (.pointer b)).run P w=.ok b.isNone w:=eqIn_p1 w 9999 h b
theorem eq_p2{e:TypeId}(h:P.underlying t=some (.pointer e))(a:Addr):(Op.equal t (.pointer (some a)) (.pointer none)).run P w=.ok false w:=eqIn_p2 w 9999 h a
theorem eq_i{e:Array (String×TypeId)}(h:P.underlying t=some (.interface e))(T:TypeId)(v:Value):(Op.equal t (.iface T v) .nilIface).run P w=.ok false w:=eqIn_i w 9999 h T v
end
theorem eqIn_n{t:TypeId}(w:World)(d:Nat){e:Array (String×TypeId)}(h:P.underlying t=some (.interface e)):(Op.equalIn (d+1) t .nilIface .nilIface).run P w=.ok true w:=by simp[Op.equalIn,under_run h]
theorem eq_n{t:TypeId}(w:World){e:Array (String×TypeId)}(h:P.underlying t=some (.interface e)):(Op.equal t .nilIface .nilIface).run P w=.ok true w:=eqIn_n w 9999 h
theorem nil_nil{t:TypeId}(w:World){e:Array (String×TypeId)}(h:P.underlying t=some (.interface e)){xo yo:Operand}(hc:(xo matches .const _)=true\/(yo matches .const _)=true)(op:BinOp)(ho:op=.eql\/op=.neq) :
  (do eqGuard op t xo yo .nilIface .nilIface;binOp op t .nilIface .nilIface).run P w=.ok (.bool (op==.eql)) w:=by
 cases xo<;>cases yo<;>first
  |(simp at hc;done)
  |(rcases ho with rfl |rfl<;>(simp[eqGuard,binOp,eq_n w h];done))
  |(rcases ho with rfl |rfl<;>(simp[eqGuard,binOp,eq_n w h];rfl))
theorem str_add (w : World) (t : TypeId) (xy : Operand × Operand) (a b : ByteArray) (h : a.size + b.size < 9223372036854775808) :
    (do eqGuard .add t xy.1 xy.2 (.string a) (.string b); binOp .add t (.string a) (.string b)).run P w = .ok (.string (a ++ b)) w := by
  simp only [eqGuard, binOp, Op.stringOp, Sem.run_bind]
  rw [if_pos (by decide)]
  simp only [Sem.run_pure, Result.andThen_ok]
  rw [if_neg (by have : IntKind.i64.max = 9223372036854775807 := by decide
                 omega)]
  rfl
theorem aggEq_run(w:World):∀(fs:List Field)(o:Nat)(ks:List Bool)(xs ys:List AV)(vs us:List Value)(A B:Array Value)(b:Bool),fldEq P o fs=some ks->aggEq ks xs ys=some b->VRs E xs vs->VRs E ys us ->
  (∀i,A[o+i]?=vs[i]?)->(∀i,B[o+i]?=us[i]?)->(Op.eqFields 9999 A B fs).run P w=.ok b w
 |[],o,ks,xs,ys,vs,us,A,B,b,hf,he,_,_,_,_=>by
  simp only[fldEq,zQ]at hf
  subst hf
  simp only[aggEq,zQ]at he
  subst he
  simp[Op.eqFields]
 |f::fs,o,ks,xs,ys,vs,us,A,B,b,hf,he,hx,hy,hA,hB=>by
  simp only[fldEq]at hf
  split at hf
  ·rename_i hn
   obtain⟨hn,ho⟩:=hn
   have hA':∀i,A[o+1+i]?=vs.tail[i]?:=fun i=>by rw[show o+1+i=o+(i+1) by omega,hA];cases vs<;>simp
   have hB':∀i,B[o+1+i]?=us.tail[i]?:=fun i=>by rw[show o+1+i=o+(i+1) by omega,hB];cases us<;>simp
   have a0:=hA 0
   have b0:=hB 0
   rw[Nat.add_zero]at a0 b0
   have part':∀(C:Array Value)(v:Value)(g:TypeDesc),P.underlying f.type=some g->(match g with |.struct _=>false |.array _ _=>false |_=>true)=true->C[o]?=some v->(part f.type C f.offset).run P w=.ok v w:=by
    intro C v g hg hs hc
    rw[ho]
    simp only[part,isAgg,Sem.run_bind,under_run hg,Result.andThen_ok]
    cases g<;>simp[hc]at hs ⊢
   split at hf
   ·rename_i hu
    cases hf':fldEq P (o+1) fs with
    |none=>rw[hf']at hf;cases hf
    |some ks'=>
     rw[hf']at hf
     simp only[yB,zQ]at hf
     subst hf
     unfold aggEq at he
     split at he
     ·rename_i h;cases h
     ·rename_i h
      cases h
      rename_i xa xs' xb ys'
      cases hx with |cons h1 hx'=>cases hy with |cons h2 hy'=>
      cases h1;cases h2
      cases hq:aggEq ks' xs' ys' with
      |none=>rw[hq]at he;cases he
      |some q=>
       rw[hq]at he
       simp only[yB,zQ]at he
       have ih:=aggEq_run w fs (o+1) ks' xs' ys' _ _ A B q hf' hq hx' hy' hA' hB'
       simp only[zA]at a0 b0
       simp only[Op.eqFields,hn,ne_eq,not_false_eq_true,zV,Sem.run_bind,part' A _ _ hu rfl a0,part' B _ _ hu rfl b0,Result.andThen_ok,run_equalIn_string w 9998 f.type _ _ hu,str_eq]
       rw[<-he]
       by_cases hab:xa=xb
       ·simp[hab,ih]
       ·simp[hab]
     ·rename_i h;cases h
     ·cases he
   ·rename_i kk hu
    cases hf':fldEq P (o+1) fs with
    |none=>rw[hf']at hf;cases hf
    |some ks'=>
     rw[hf']at hf
     simp only[yB,zQ]at hf
     subst hf
     unfold aggEq at he
     split at he
     ·rename_i h;cases h
     ·rename_i h;cases h
     ·rename_i h
      cases h
      rename_i k1 xa xs' k2 xb ys'
      split at he
      ·rename_i hk
       subst hk
       cases hx with |cons h1 hx'=>cases hy with |cons h2 hy'=>
       cases h1;cases h2
       cases hq:aggEq ks' xs' ys' with
       |none=>rw[hq]at he;cases he
       |some q=>
        rw[hq]at he
        simp only[yB,zQ]at he
        have ih:=aggEq_run w fs (o+1) ks' xs' ys' _ _ A B q hf' hq hx' hy' hA' hB'
        simp only[zA]at a0 b0
        simp only[Op.eqFields,hn,ne_eq,not_false_eq_true,zV,Sem.run_bind,part' A _ _ hu rfl a0,part' B _ _ hu rfl b0,Result.andThen_ok,run_equalIn_int w 9998 f.type k1 kk _ _ hu]
        rw[<-he]
        by_cases hab:xa=xb
        ·simp[hab,ih]
        ·simp[hab]
      ·cases he
     ·cases he
   ·cases hf
  ·cases hf
theorem aggCmp_run{t:TypeId}{xs ys:List AV}{vs us:List Value}{b:Bool}(w:World)(hx:VRs E xs vs)(hy:VRs E ys us)(h:aggCmp P t xs ys=some b)(op:BinOp)(ho:op=.eql\/op=.neq)(xo yo:Operand) :
  (do eqGuard op t xo yo (.agg vs.toArray) (.agg us.toArray);binOp op t (.agg vs.toArray) (.agg us.toArray)).run P w=.ok (.bool (if op=.eql then b else !b)) w:=by
 unfold aggCmp flatEq at h
 split at h
 ·rename_i hg
  cases hu:P.underlying t with
  |none=>rw[hu]at h;cases h
  |some g=>
   rw[hu]at h
   cases g<;>simp only[Option.bind_none,reduceCtorEq]at h
   rename_i fs
   cases hf:fldEq P 0 fs.toList with
   |none=>rw[hf]at h;cases h
   |some ks=>
    rw[hf]at h
    simp only[Option.bind_some]at h
    have hfo:P.fieldsOf t=fs:=by unfold Program.fieldsOf;rw[hu]
    have key:(Op.equalIn 10000 t (.agg vs.toArray) (.agg us.toArray)).run P w=.ok b w:=by
     rw[run_equalIn_struct w 9999 t _ _ (by rw[hfo];exact hu) hg.2,hfo]
     exact aggEq_run w _ 0 ks xs ys vs us _ _ b hf h hx hy (fun i=>by simp) (fun i=>by simp)
    rw[Sem.run_bind,run_eqGuard_agg w op t xo yo _ _ hg.1,Result.andThen_ok]
    rcases ho with rfl |rfl
    ·rw[run_eql_struct,key];rfl
    ·rw[run_neq_struct,key];rfl
 ·cases h
theorem pBin_ok{op:BinOp}{t:TypeId}{xo yo:Operand}{x y:AV}{v u:Value}(hx:VR E x v)(hy:VR E y u){cst:Bool}(hcst:cst=true->(xo matches .const _)=true\/(yo matches .const _)=true)(hp:pBin P op t cst x y K) :
  PS P E (do eqGuard op t xo yo v u;binOp op t v u) K:=by
 have bool':isBoolT P t=true->P.underlying t=some .bool:=by unfold isBoolT;split<;>simp_all
 have slice':isSliceT P t=true->∃e,P.underlying t=some (.slice e):=by unfold isSliceT;split<;>simp_all
 have ptr':isPtrT P t=true->∃e,P.underlying t=some (.pointer e):=by unfold isPtrT;split<;>simp_all
 have ifc':isIfaceT P t=some true->∃e,P.underlying t=some (.interface e):=by
  unfold isIfaceT
  cases hd:P.underlying t with
  |none=>simp
  |some d=>cases d<;>simp
 unfold pBin at hp
 split at hp<;>try exact hp.elim
 all_goals first
  |(obtain⟨h1,hp⟩:=hp;obtain⟨b,hb⟩:=Option.isSome_iff_exists.1 h1;rw[hb]at hp;cases hx;cases hy;exact⟨_,_,.sc _,hp,fun w=>aggCmp_run w (by assumption) (by assumption) hb _ (by simp) xo yo⟩)
  |(cases hx;cases hy;obtain⟨rfl,h2,hp⟩:=hp;refine⟨_,_,.sc _,hp,fun w=>?_⟩;simp[eqGuard,binOp,Op.intDiv,h2];done)
  |(cases hx;cases hy;obtain⟨rfl,hp⟩:=hp;refine⟨_,_,.sc _,hp,fun w=>?_⟩;simp[eqGuard,binOp,Op.intArith,Op.intBits,Op.intCmp];done)
  |(cases hx;cases hy;obtain⟨h1,hp⟩:=hp;have h1':=Int.not_lt.2 h1;refine⟨_,_,.sc _,hp,fun w=>?_⟩;simp[eqGuard,binOp,Op.shift,h1'];done)
  |(cases hx;cases hy;obtain⟨h1,hp⟩:=hp;refine⟨_,_,.sc _,hp,fun w=>?_⟩;exact str_add w _ (xo,yo) _ _ h1)
  |(cases hx;cases hy;refine⟨_,_,.sc _,hp,fun w=>?_⟩;simp[eqGuard,binOp,Op.stringOp,str_eq];done)
  |(cases hx;cases hy;obtain⟨h1,hp⟩:=hp;have h1':=bool' h1;refine⟨_,_,.sc _,hp,fun w=>?_⟩;simp[eqGuard,binOp,eq_bool w h1'];done)
  |(cases hx;cases hy;obtain⟨h1,hp⟩:=hp;obtain⟨e,h1'⟩:=slice' h1;refine⟨_,_,.sc _,hp,fun w=>?_⟩;simp[eqGuard,binOp,eq_sl1 w h1'];done)
  |(cases hx;cases hy;obtain⟨h1,hp⟩:=hp;obtain⟨e,h1'⟩:=slice' h1;refine⟨_,_,.sc _,hp,fun w=>?_⟩;simp[eqGuard,binOp,eq_sl2 w h1'];done)
  |(cases hx;cases hy;obtain⟨h1,hp⟩:=hp;obtain⟨e,h1'⟩:=ptr' h1;refine⟨_,_,.sc _,hp,fun w=>?_⟩;simp[eqGuard,binOp,eq_p1 w h1'];done)
  |(cases hx;cases hy;obtain⟨h1,hp⟩:=hp;obtain⟨e,h1'⟩:=ptr' h1;refine⟨_,_,.sc _,hp,fun w=>?_⟩;simp[eqGuard,binOp,eq_p2 w h1'];done)
  |(cases hx;cases hy;obtain⟨h0,h1,hp⟩:=hp;obtain⟨e,h1'⟩:=ifc' h1;refine⟨_,_,.sc _,hp,fun w=>?_⟩;exact nil_nil w h1' (hcst h0) _ (by simp))
  |(cases hx;cases hy;obtain⟨h1,hp⟩:=hp;obtain⟨e,h1'⟩:=ifc' h1;refine⟨_,_,.sc _,hp,fun w=>?_⟩;simp[eqGuard,binOp,eq_i w h1'];done)
end
section
variable {P:Program} {E:Env}
def VRo(E:Env):Option AV->Option Value->Prop
 |some a,some u=>VR E a u
 |none,none=>True
 |_,_=>False
theorem bnd_some{a:AV}{v:Value}{d y:Nat}{n:Int}{code:BoundsCode}(w:World)(hx:VR E a v)(hb:bnd (some a) d=some n)(h0:0<=n)(h1:n<=(y:Int)) :
  (Instr.sliceBound v y code).run P w=.ok n.toNat w:=by
 unfold bnd at hb
 split at hb
 ·rename_i h;cases h
 ·rename_i h
  cases h
  cases hb
  cases hx
  simp[Instr.sliceBound,asIntOf,h0,h1]
 ·cases hb
inductive F2 (R:Nat×AV->Nat×Value->Prop):List (Nat×AV)->List (Nat×Value)->Prop
 |nil:F2 R [] []
 |cons {a:Nat×AV} {b:Nat×Value} {l:List (Nat×AV)} {m:List (Nat×Value)}:R a b->F2 R l m->F2 R (a::l) (b::m)
theorem bounds_run{lo hi:Option AV}{lv hv:Option Value}(hl:VRo E lo lv)(hh:VRo E hi hv){len cap:Nat}{l u:Int}(isS:Bool)
  (bl:bnd lo 0=some l) (bh:bnd hi len=some u) (h0:0<=l) (h1:l<=u) (h2:u<=(cap:Int)) (w:World) :
  (Instr.sliceBounds isS len cap lv hv none).run P w=.ok (l.toNat,u.toNat,cap) w:=by
 unfold Instr.sliceBounds
 cases lo with
 |none=>
  cases lv with
  |some _=>exact hl.elim
  |none=>
   simp only[bnd,zQ]at bl
   subst bl
   cases hi with
   |none=>
    cases hv with
    |some _=>exact hh.elim
    |none=>simp only[bnd,zQ]at bh;subst bh;simp
   |some b=>
    cases hv with
    |none=>exact hh.elim
    |some u'=>
     have:=bnd_some (P:=P) (y:=cap) (code:=if isS then .sliceAcap else .sliceAlen) w hh bh (by omega) h2
     simp[this]
 |some a=>
  cases lv with
  |none=>exact hl.elim
  |some l'=>
   have hl':=bnd_some (P:=P) (y:=u.toNat) (code:=.sliceB) w hl bl h0 (by omega)
   cases hi with
   |none=>
    cases hv with
    |some _=>exact hh.elim
    |none=>simp only[bnd,zQ]at bh;subst bh;simp at hl' ⊢;simp[hl']
   |some b=>
    cases hv with
    |none=>exact hh.elim
    |some u'=>
     have:=bnd_some (P:=P) (y:=cap) (code:=if isS then .sliceAcap else .sliceAlen) w hh bh (by omega) h2
     simp[this,hl']
theorem pSlS_ok{K:AV->Prop}{t:TypeId}{x:AV}{v:Value}{lo hi:Option AV}{lv hv:Option Value}(hx:VR E x v)(hl:VRo E lo lv)(hh:VRo E hi hv)
  (ht:isStr P t=true) (hp:pSlS x lo hi K):PS P E (Instr.sliceAt t v lv hv none) K:=by
 unfold isStr at ht
 split at ht
 ·rename_i hu
  unfold pSlS at hp
  split at hp
  ·obtain⟨l,u,bl,bh,⟨h0,h1,h2⟩,hp⟩:=hp
   cases hx
   refine⟨_,_,.sc _,hp,fun w=>?_⟩
   simp[Instr.sliceAt,under_run hu,Instr.slice,bounds_run hl hh false bl bh h0 h1 h2 w]
  ·exact hp.elim
 ·cases ht
theorem pSlL_ok{K:AV->Prop}{h:AH}{w0:World}{t:TypeId}{x:AV}{v:Value}{lo hi:Option AV}{lv hv:Option Value}(hr:Rel E h w0)(hx:VR E x v)(hl:VRo E lo lv)(hh:VRo E hi hv)
  (hp:pSlL (slOf P t) x lo hi h K):PS P E (Instr.sliceAt t v lv hv none) K:=by
 have key:∀sz,slOf P t=some sz->∃e,P.underlying t=some (.slice e)/\szOf P e=some sz:=by
  intro sz he
  unfold slOf at he
  split at he
  ·exact⟨_,by assumption,he⟩
  ·cases he
 unfold pSlL at hp
 split at hp
 ·rename_i sz id off len he
  obtain⟨e,hu,hz⟩:=key _ he
  obtain⟨l,u,bl,bh,⟨h0,h1,h2⟩,hp⟩:=hp
  cases hx with
  |sl hB ho hc hlen hm=>
   rename_i o cap B
   have hucap:u<=(cap:Int):=by
    rcases h2 with⟨_,h2⟩ |⟨ob,hob,hk,hsz,hpos,h2⟩
    ·omega
    ·rcases h2 with h2 |h2
     ·omega
     ·obtain⟨B',hB',hO⟩:=hr.obj id ob hob
      rw[hB]at hB';cases hB'
      obtain⟨arr,fz,_,_,hn,hbs,hcr⟩:=hO.row hk
      have hs:sz=B.sz:=by rw[hbs,hsz]
      rw[hs]at h2
      have h3:off+u.toNat*sz<=off+cap*sz:=by rw[hs];omega
      have h4:u.toNat*sz<=cap*sz:=by omega
      have:=Nat.le_of_mul_le_mul_right h4 hpos
      omega
   have hsz:l.toNat=0\/B.sz=sz:=by
    rcases h2 with⟨h2,_⟩ |⟨ob,hob,hk,hsz,_⟩
    ·left;omega
    ·obtain⟨B',hB',hO⟩:=hr.obj id ob hob
     rw[hB]at hB';cases hB'
     obtain⟨arr,fz,_,_,hn,hbs,hcr⟩:=hO.row hk
     right;rw[hbs,hsz]
   have hlc:l.toNat<=cap:=by omega
   refine⟨_,.slice (some ⟨B.b,if cap=l.toNat then o else o+l.toNat*sz,none⟩) (u.toNat-l.toNat) (cap-l.toNat),?_,hp,fun w=>?_⟩
   ·refine .sl hB ?_ ?_ (by omega) (by omega)
    ·by_cases hcl:cap=l.toNat
     ·rw[zX hcl]
      rcases ho with ho |ho
      ·subst ho
       rcases Nat.eq_zero_or_pos (l.toNat*sz) with h5 |h5
       ·left;omega
       ·right;omega
      ·right;omega
     ·rw[zW hcl]
      rcases ho with ho |ho
      ·left;rw[ho,Nat.add_assoc]
      ·right;omega
    ·rcases hsz with hsz |hsz
     ·rw[hsz];simpa using hc
     ·rw[<-hc,hsz,Nat.sub_mul]
      have:l.toNat*sz<=cap*sz:=Nat.mul_le_mul_right _ hlc
      omega
   ·simp only[Instr.sliceAt,Sem.run_bind,under_run hu,Result.andThen_ok,Instr.slice,bounds_run hl hh true bl bh h0 h1 hucap w,szOf_run hz,Sem.run_pure]
    congr 2
    by_cases hcl:cap=l.toNat
    ·simp[hcl]
    ·simp only[hcl,if_false,yB]
     unfold Addr.add
     by_cases h0:l.toNat*sz=0<;>simp[h0]
 ·rename_i sz he
  obtain⟨e,hu,hz⟩:=key _ he
  obtain⟨bl,bh,hp⟩:=hp
  cases hx
  refine⟨_,_,.sc _,hp,fun w=>?_⟩
  simp[Instr.sliceAt,under_run hu,Instr.slice,bounds_run (P:=P) hl hh true bl bh (Int.le_refl _) (Int.le_refl _) (Int.le_refl _) w,szOf_run hz]
 ·exact hp.elim
def aFill(place:Nat->Option (Nat×Nat))(cells:List AV):List (Nat×AV)->Option (List AV)
 |[]=>some cells
 |(i,x)::rest=>
  match place i,avCells x with
  |some (off,size),some cs=>if cs.length=size/\off+cs.length<=cells.length then aFill place (putCells cells off cs) rest else none
  |_,_=>none
theorem VRs.set{l:List AV}{vs:List Value}(h:VRs E l vs)(i:Nat){a:AV}{v:Value}(hv:VR E a v):VRs E (l.set i a) (vs.set i v):=by
 refine VRs.of_get _ _ (by simp[h.length]) fun j b u h1 h2=>?_
 rw[List.getElem?_set]at h1 h2
 by_cases e:i=j
 ·rw[zX e]at h1 h2
  split at h1
  ·split at h2
   ·cases h1;cases h2;exact hv
   ·cases h2
  ·cases h1
 ·rw[zW e]at h1 h2
  obtain⟨u',hu,hvr⟩:=h.get h1
  rw[hu]at h2;cases h2;exact hvr
theorem put_foldl{off:Nat}:∀(cs:List AV)(vs:List Value)(k:Nat)(cells:List AV)(arr:Array Value),VRs E cs vs->VRs E cells arr.toList ->
  VRs E (putCells cells (off+k) cs) ((vs.zipIdx k).foldl (fun(cs:Array Value) (x:Value×Nat)=>cs.setIfInBounds (off+x.2) x.1) arr).toList
 |[],_,_,_,_,.nil,h=>by simpa[putCells] using h
 |c::cs,_,k,cells,arr,.cons (v:=v) (vs:=vs) h1 h2,h=>by
  have:=put_foldl (off:=off) cs vs (k+1) (cells.set (off+k) c) (arr.setIfInBounds (off+k) v) h2 (by rw[Array.toList_setIfInBounds];exact h.set _ h1)
  simpa[putCells,List.zipIdx_cons,Nat.add_assoc] using this
theorem fill_ok{place:Nat->Option (Nat×Nat)}:∀(parts:List (Nat×AV))(pv:List (Nat×Value))(cells cells':List AV)(arr:Array Value),
  F2 (fun a b=>a.1=b.1/\VR E a.2 b.2) parts pv->VRs E cells arr.toList->aFill place cells parts=some cells' ->
  ∃arr',Instr.fill place arr pv=some arr'/\VRs E cells' arr'.toList
 |[],_,cells,cells',arr,.nil,h,hf=>by simp only[aFill,zQ]at hf;subst hf;exact⟨arr,rfl,h⟩
 |(i,x)::parts,_,cells,cells',arr,.cons (b:=b) (m:=pv) h1 h2,h,hf=>by
  obtain⟨j,v⟩:=b
  obtain⟨e,hv⟩:=h1
  simp only at e hv
  subst e
  simp only[aFill]at hf
  split at hf
  ·rename_i off size cs hp hc
   split at hf
   ·rename_i hcond
    have hcells:=hv.cells hc
    have hlen:v.cells.size=cs.length:=by have:=hcells.length;simpa using this.symm
    have hal:cells.length=arr.size:=by have:=h.length;simpa using this
    have hput:=put_foldl (E:=E) (off:=off) cs v.cells.toList 0 cells arr hcells h
    obtain⟨arr',hfill,hvr⟩:=fill_ok parts pv _ cells' _ h2 hput hf
    refine⟨arr',?_,hvr⟩
    simp only[Instr.fill,hp]
    rw[zW (by simp;omega)]
    rw[<-hfill]
    congr 1
    rw[<-Array.foldl_toList,Array.toList_zipIdx]
   ·cases hf
  ·cases hf
end
section
variable {P:Program} {E:Env}
def lLd(g:Option Bool)(n:Option Nat)(x:AV)(h:AH)(K:AV->Nat->Prop):Prop:=
 match g,n,x with
 |some false,_,.ptr id off=>∃o c,(h.obj id=some o/\o.kind=.row/\o.cells[off]?=some c)/\K c id
 |some true,some n,.ptr id off=>∃o,(h.obj id=some o/\o.kind=.row/\off+n<=o.cells.length)/\K (.agg ((o.cells.drop off).take n)) id
 |_,_,_=>False
def LS(P:Program)(E:Env)(w:World)(s:Sem Value)(K:AV->Nat->Prop):Prop:=
 ∃av u id B,VR E av u/\K av id/\E id=some B/\∀w',w'.heap[B.b]?=w.heap[B.b]?->s.run P w'=.ok u w'
theorem loadCellsFrom_run{w:World}{B:Blk}{arr:Array Value}{T:TypeId}{fz:Nat×Nat}(hb:w.heap[B.b]?=some (.cells arr T fz))(off:Nat) :
  ∀(n k:Nat)(acc:Array Value),off+k+n<=arr.size->(loadCellsFrom ⟨B.b,off,none⟩ k n acc).run P w=.ok (acc++arr.extract (off+k) (off+k+n)) w
 |0,k,acc,_=>by simp[loadCellsFrom];omega
 |n+1,k,acc,h=>by
  have ha:(⟨B.b,off,none⟩:Addr).add k=⟨B.b,off+k,none⟩:=by unfold Addr.add;by_cases hk:k=0<;>simp[hk]
  have hc:w.cell? ⟨B.b,off+k,none⟩=some (arr[off+k]'(by omega)):=by simp[World.cell?,hb]
  have ih:=loadCellsFrom_run hb off n (k+1) (acc.push (arr[off+k]'(by omega))) (by omega)
  simp only[loadCellsFrom,Sem.run_bind,ha,load,Sem.run,hc,Result.andThen_ok]
  rw[ih]
  congr 1
  apply Array.ext'
  simp only[Array.toList_append,Array.toList_push,Array.toList_extract,List.append_assoc]
  congr 1
  rw[List.extract_eq_take_drop,List.extract_eq_take_drop]
  have h1:off+(k+1)+n-(off+(k+1))=n:=by omega
  have h2:off+k+(n+1)-(off+k)=n+1:=by omega
  rw[h1,h2]
  have h3:List.drop (off+k) arr.toList=arr[off+k]'(by omega)::List.drop (off+(k+1)) arr.toList:=by
   rw[List.drop_eq_getElem_cons (by simp;omega)]
   simp[Nat.add_assoc]
  rw[h3];simp
theorem CRb.get{k:Nat}{cells:List AV}{arr:Array Value}(h:CRb E k cells arr):k+cells.length<=arr.size\/cells.length=0:=by
 cases hcl:cells.length with
 |zero=>exact .inr rfl
 |succ m=>
  obtain⟨v,hv,_⟩:=h m (cells[m]'(by omega)) (zJ (by omega))
  have:=(Array.getElem?_eq_some_iff.1 hv).1
  left;omega
theorem CRb.vrs{k:Nat}{cells:List AV}{arr:Array Value}(h:CRb E k cells arr){off n:Nat}(hl:off+n<=cells.length):VRs E ((cells.drop off).take n) (arr.extract (k+off) (k+off+n)).toList:=by
 have hs:=h.get
 refine VRs.of_get _ _ (by simp;omega) fun i a v h1 h2=>?_
 rw[List.getElem?_take]at h1
 split at h1
 ·rename_i hi
  rw[List.getElem?_drop]at h1
  obtain⟨u,hu,hv,_⟩:=h _ _ h1
  have:(arr.extract (k+off) (k+off+n)).toList[i]?=arr[k+(off+i)]?:=by
   rw[Array.getElem?_toList,Array.getElem?_extract]
   rw[zX (by omega),Nat.add_assoc]
  rw[this,hu]at h2;cases h2;exact hv
 ·cases h1
theorem CR.vrs{cells:List AV}{arr:Array Value}(h:CR E cells arr){off n:Nat}(hl:off+n<=cells.length):VRs E ((cells.drop off).take n) (arr.extract off (off+n)).toList:=by
 have hs:=h.get
 refine VRs.of_get _ _ (by simp;omega) fun i a v h1 h2=>?_
 rw[List.getElem?_take]at h1
 split at h1
 ·rename_i hi
  rw[List.getElem?_drop]at h1
  obtain⟨u,hu,hv,_⟩:=h _ _ h1
  have:(arr.extract off (off+n)).toList[i]?=arr[off+i]?:=by
   rw[Array.getElem?_toList,Array.getElem?_extract]
   rw[zX (by omega)]
  rw[this,hu]at h2;cases h2;exact hv
 ·cases h1
theorem lLd_ok{t:TypeId}{h:AH}{w:World}{K:AV->Nat->Prop}{x:AV}{v:Value}(hr:Rel E h w)(hx:VR E x v)(hp:lLd (aggOf P t) (szOf P t) x h K) :
  LS P E w (Instr.loadAt t v) K:=by
 unfold lLd at hp
 split at hp
 ·rename_i id off hg
  obtain⟨o,c,⟨ho,hk,hc⟩,hp⟩:=hp
  cases hx with
  |ptr hB=>
   rename_i B
   obtain⟨B',hB',hO⟩:=hr.obj id o ho
   rw[hB]at hB';cases hB'
   obtain⟨arr,fz,hb,_,hn,_,hcr⟩:=hO.row hk
   obtain⟨u,hu,hv,_⟩:=hcr _ _ hc
   refine⟨c,u,id,B,hv,hp,hB,fun w' hw'=>?_⟩
   have hcell:w'.cell? ⟨B.b,B.o+off,none⟩=some u:=by simp[World.cell?,hw',hb,hu]
   simp[Instr.loadAt,Instr.sureAddr,loadVar,aggOf_run hg,hcell]
 ·rename_i n id off hg hz
  obtain⟨o,⟨ho,hk,hl⟩,hp⟩:=hp
  cases hx with
  |ptr hB=>
   rename_i B
   obtain⟨B',hB',hO⟩:=hr.obj id o ho
   rw[hB]at hB';cases hB'
   obtain⟨arr,fz,hb,_,hn,_,hcr⟩:=hO.row hk
   have hs:=hcr.get
   refine⟨_,.agg (arr.extract (B.o+off) (B.o+off+n)),id,B,.agg (vs:=(arr.extract (B.o+off) (B.o+off+n)).toList) (hcr.vrs hl),hp,hB,fun w' hw'=>?_⟩
   by_cases hn0:n=0
   ·subst hn0
    simp only[Instr.loadAt,Instr.sureAddr,loadVar,Sem.run_bind,Sem.run_pure,Result.andThen_ok,aggOf_run hg,zV,szOf_run hz,loadCells,loadCellsFrom]
    simp only[Nat.add_zero]
    congr 2
    exact(Array.extract_empty_of_stop_le_start (zU _)).symm
   have:=loadCellsFrom_run (P:=P) (w:=w') (by rw[hw'];exact hb) (B.o+off) n 0 #[] (by omega)
   simp only[Instr.loadAt,Instr.sureAddr,loadVar,Sem.run_bind,Sem.run_pure,Result.andThen_ok,aggOf_run hg,zV,szOf_run hz,loadCells,this,Nat.add_zero,Array.empty_append]
 ·exact hp.elim
def strC(l:List UInt8):List AV:=l.map fun b=>.sc (.int .u8 b.toNat)
def pB2S(x:AV)(h:AH)(K:AV->Nat->Prop):Prop:=
 match x with
 |.sl id off len=>∃o,∃l:List UInt8,(h.obj id=some o/\o.kind=.row/\off+len<=o.cells.length/\(o.cells.drop off).take len=strC l)/\K (.sc (.string ⟨l.toArray⟩)) id
 |_=>False
theorem foldl_push(l:List UInt8):∀acc:ByteArray,(l.map fun b=>((b.toNat:Nat):Int)).foldl (fun r n=>r.push (UInt8.ofNat n.toNat)) acc=⟨acc.data++l.toArray⟩:=by
 induction l with
 |nil=>intro acc;simp
 |cons b l ih=>
  intro acc
  simp only[List.map_cons,List.foldl_cons]
  rw[ih]
  congr 1
  apply Array.ext'
  simp[ByteArray.push]
theorem VRs.strC{l:List UInt8}{vs:List Value}(h:VRs E (strC l) vs):vs=(l.map fun b=>((b.toNat:Nat):Int)).map (Value.int .u8):=by
 induction l generalizing vs with
 |nil=>cases h;rfl
 |cons b l ih=>
  cases h with
  |cons h1 h2=>cases h1;rw[ih h2];rfl
theorem pB2S_ok{s d:TypeId}{h:AH}{w:World}{K:AV->Nat->Prop}{x:AV}{v:Value}(hr:Rel E h w)(hx:VR E x v)(ht:b2sT P s d=true)(hp:pB2S x h K) :
  LS P E w (convert s d v) K:=by
 unfold b2sT at ht
 split at ht
 ·rename_i e hs hd
  unfold isU8T at ht
  split at ht
  ·rename_i he
   unfold pB2S at hp
   split at hp
   ·rename_i id off len
    obtain⟨o,l,⟨ho,hk,hle,hl⟩,hp⟩:=hp
    cases hx with
    |sl hB hof hc hlen hm=>
     rename_i o' cap B
     obtain⟨B',hB',hO⟩:=hr.obj id o ho
     rw[hB]at hB';cases hB'
     obtain⟨arr,fz,hb,_,hn,_,hcr⟩:=hO.row hk
     have hs':=hcr.get
     refine⟨_,.string ⟨l.toArray⟩,id,B,.sc _,hp,hB,fun w' hw'=>?_⟩
     have hll:l.length=len:=by
      have:=congrArg List.length hl
      simp[strC]at this
      omega
     have hload:(loadCells ⟨B.b,o',none⟩ len).run P w'=.ok ((l.map fun b=>((b.toNat:Nat):Int)).map (Value.int .u8)).toArray w':=by
      by_cases h0:len=0
      ·subst h0
       have:l=[]:=List.length_eq_zero_iff.1 hll
       subst this
       simp[loadCells,loadCellsFrom]
      ·have ho':o'=B.o+off:=by omega
       subst ho'
       have:=loadCellsFrom_run (P:=P) (w:=w') (by rw[hw'];exact hb) (B.o+off) len 0 #[] (by omega)
       have hvr:=(hcr.vrs hle)
       rw[hl]at hvr
       have hvs:=hvr.strC
       simp only[loadCells,this,Nat.add_zero,Array.empty_append]
       congr 1
       apply Array.ext'
       rw[hvs]
     have:=run_bytesToString (P:=P) w' ⟨B.b,o',none⟩ len cap _ hload
     simp only[convert,Sem.run_bind,under_run hs,under_run hd,under_run he,Result.andThen_ok,this]
     rw[foldl_push]
     congr 2
     simp
   ·exact hp.elim
  ·cases ht
 ·cases ht
def oneA:AV->Bool
 |.sc v=>v.oneCell'
 |.agg _ |.tup _=>false
 |_=>true
theorem VR.one{a:AV}{v:Value}(h:VR E a v)(ho:oneA a=true):v.oneCell'=true:=by
 cases h<;>first |exact ho |(simp[oneA]at ho;done) |rfl
def ES(P:Program)(E:Env)(h:AH)(W:Nat->Prop)(w:World)(s:Sem Value)(K:AV->AH->Prop):Prop:=
 ∃av u E' h' w',Step E h W w E' h' w'/\VR E' av u/\K av h'/\s.run P w=.ok u w'
def eAlloc(z:Option (List Value))(sz:Nat)(t:TypeId)(h:AH)(K:AV->AH->Prop):Prop:=
 match z with
 |some z=>(z.all (·.oneCell')=true)/\K (.ptr h.next 0) (h.alloc { cells:=z.map .sc,sz:=sz,ty:=t })
 |none=>False
def eBox(sz:Nat)(t:TypeId)(x:AV)(h:AH)(K:AV->AH->Prop):Prop:=
 ∃cs,avCells x=some cs/\cs.all oneA=true/\K (.ptr h.next 0) (h.alloc { cells:=cs,sz:=sz,ty:=t })
def eStore(n:Option Nat)(a x:AV)(h:AH)(W:Nat->Prop)(K:AH->Prop):Prop:=
 match n,a with
 |some n,.ptr id off=>∃o cs,(W id/\h.obj id=some o/\o.kind=.row/\o.ro=false/\avCells x=some cs/\cs.all oneA=true/\cs.length=n/\off+n<=o.cells.length)/\K (h.put id off cs)
 |_,_=>False
theorem VRs.cr{cs:List AV}{vs:List Value}(h:VRs E cs vs)(h1:∀v∈vs,v.oneCell'=true):CR E cs vs.toArray:=by
 intro i c hi
 obtain⟨v,hv,hr⟩:=h.get hi
 exact⟨v,by simpa using hv,hr,h1 v (zP hv)⟩
theorem VRs.one{cs:List AV}{vs:List Value}(h:VRs E cs vs)(h1:cs.all oneA=true):∀v∈vs,v.oneCell'=true:=by
 intro v hv
 obtain⟨i,hi,rfl⟩:=List.mem_iff_getElem.1 hv
 have hl:=h.length
 have hc:cs[i]?=some (cs[i]'(by omega)):=zJ (by omega)
 obtain⟨u,hu,hr⟩:=h.get hc
 have:vs[i]=u:=by rw[zJ hi]at hu;simpa using hu
 rw[this]
 exact hr.one ((List.all_eq_true.1 h1) _ (List.getElem_mem _))
theorem zeroOf_run{t:TypeId}{z:List Value}(hz:zeroOf P t=some z):∃v:Value,v.cells.toList=z/\∀w,(zeroValue t).run P w=.ok v w:=by
 unfold zeroOf at hz
 cases hi:P.info? t with
 |none=>rw[hi]at hz;cases hz
 |some i=>
  rw[hi]at hz
  cases hv:i.zero with
  |none=>simp[hv]at hz
  |some v=>
   simp only[Option.bind_some,hv,yB,zQ]at hz
   exact⟨v,hz,fun w=>by simp[zeroValue,typeInfo,hi,hv]⟩
theorem eAlloc_ok{t:TypeId}{sz:Nat}{h:AH}{W:Nat->Prop}{w:World}{K:AV->AH->Prop}(hr:Rel E h w)(hp:eAlloc (zeroOf P t) sz t h K) :
  ES P E h W w (Instr.alloc t true (.tuple #[])) K:=by
 unfold eAlloc at hp
 split at hp
 ·rename_i z hz
  obtain⟨h1,hp⟩:=hp
  obtain⟨v,hv,hrun⟩:=zeroOf_run hz
  have hcr:CR E (z.map .sc) v.cells:=by
   have:=(VRs.lift E z).cr (fun v hv=>(List.all_eq_true.1 h1) v hv)
   rw[<-hv]at this ⊢
   simpa using this
  refine⟨_,.pointer (some ⟨w.heap.size,0,none⟩),_,_,_,Step.alloc (o:={ cells:=z.map .sc,sz:=sz,ty:=t }) hr rfl hcr,?_,hp,?_⟩
  ·exact .ptr (B:=⟨w.heap.size,v.cells.size,sz,0⟩) (by simp[Env.put])
  ·simp[Instr.alloc,hrun,newVar,newRow]
 ·exact hp.elim
theorem eBox_ok{t:TypeId}{sz:Nat}{h:AH}{W:Nat->Prop}{w:World}{K:AV->AH->Prop}{x:AV}{v:Value}(hr:Rel E h w)(hx:VR E x v)(hp:eBox sz t x h K) :
  ES P E h W w (Instr.box t v) K:=by
 obtain⟨cs,hc,h1,hp⟩:=hp
 have hvs:=hx.cells hc
 have hcr:CR E cs v.cells:=by simpa using hvs.cr (hvs.one h1)
 refine⟨_,.pointer (some ⟨w.heap.size,0,none⟩),_,_,_,Step.alloc (o:={ cells:=cs,sz:=sz,ty:=t }) hr rfl hcr,?_,hp,?_⟩
 ·exact .ptr (B:=⟨w.heap.size,v.cells.size,sz,0⟩) (by simp[Env.put])
 ·simp[Instr.box,newVar,newRow]
theorem eStore_ok{t:TypeId}{h:AH}{W:Nat->Prop}{w:World}{K:AH->Prop}{a x:AV}{av v:Value}(hr:Rel E h w)(ha:VR E a av)(hx:VR E x v)
  (hp:eStore (szOf P t) a x h W K):∃E' h' w',Step E h W w E' h' w'/\K h'/\(Instr.storeAt t av v).run P w=.ok () w':=by
 unfold eStore at hp
 split at hp
 ·rename_i n id off hz
  obtain⟨o,cs,⟨hW,ho,hk,hro,hc,h1,hn,hl⟩,hp⟩:=hp
  cases ha with
  |ptr hB=>
   rename_i B
   have hvs:=hx.cells hc
   have hB0:B.o=0:=by
    obtain⟨B',hB',hO⟩:=hr.obj id o ho
    rw[hB]at hB';cases hB'
    obtain⟨arr,fz,_,hfz,_⟩:=hO.row hk
    exact(hfz hro).2.2
   rw[hB0,zG]
   obtain⟨w',hrun,hst⟩:=run_storeCells (P:=P) (a:=⟨B.b,off,none⟩) hW hB rfl rfl cs v.cells.toList 0 h w o hr ho hk hro hvs (hvs.one h1) (by simp;omega)
   refine⟨E,_,w',hst,hp,?_⟩
   have hsz:v.cells.size=n:=by have:=hvs.length;simp at this;omega
   simp only[Instr.storeAt,Instr.sureAddr,storeVar,Sem.run_bind,Sem.run_pure,Result.andThen_ok,szOf_run hz,hsz,ne_eq,not_true,if_false,hrun]
 ·exact hp.elim
end
section
variable {P:Program} {E:Env}
def AH.delO(h:AH):Option Nat->AH
 |none=>h
 |some id=>h.del id
theorem AH.delO_obj(h:AH)(d:Option Nat)(i:Nat):(h.delO d).obj i=if d=some i then none else h.obj i:=by
 cases d with
 |none=>simp[AH.delO]
 |some id=>
  simp only[AH.delO,AH.del,zQ]
  by_cases e:i=id
  ·simp[e]
  ·rw[zW e,zW (fun h=>e h.symm)]
theorem AH.delO_next(h:AH)(d:Option Nat):(h.delO d).next=h.next:=by cases d<;>rfl
theorem Step.grow{h:AH}{W:Nat->Prop}{w w':World}(hr:Rel E h w)(d:Option Nat){row:Option Nat}
  (hd:∀id,d=some id->W id/\h.obj id≠none/\(∃B,E id=some B/\row=some B.b)/\∀o,h.obj id=some o->o.ro=false) (hn:d=none->row=none)
  {g:Nat} (hg:row=some g\/w.heap.size<=g) (hgr:w.grownBy w' row) {cur:Array Value} {T:TypeId} (hcur:w'.heap[g]?=some (.cells cur T (0,0)))
  {cells:List AV} (sz:Nat) (hc:CR E cells cur) :
  Step E h W w (E.put h.next ⟨g,cur.size,sz,0⟩) ((h.delO d).alloc { cells:=cells,sz:=sz,ty:=T }) w':=by
 have hle:E.le (E.put h.next ⟨g,cur.size,sz,0⟩):=Env.le_put (hr.fresh _ (zU _))
 have hobj:∀i,((h.delO d).alloc { cells:=cells,sz:=sz,ty:=T }).obj i=if i=h.next then some { cells:=cells,sz:=sz,ty:=T } else if d=some i then none else h.obj i:=by
  intro i
  show(if i=(h.delO d).next then _ else(h.delO d).obj i)=_
  rw[AH.delO_next,AH.delO_obj]
 have hother:∀i o B,h.obj i=some o->E i=some B->d≠some i->some B.b≠row:=by
  intro i o B ho hB hne
  cases hdd:d with
  |none=>rw[hn hdd];simp
  |some id=>
   obtain⟨_,hob,⟨B',hB',hrow⟩,hro⟩:=hd id hdd
   rw[hrow]
   intro e
   cases ho':h.obj id with
   |none=>exact hob ho'
   |some o'=>
    rcases hr.inj i id o o' B B' ho ho' hB hB' (by simpa using e) with this |this
    ·rw[this]at hne
     exact hne hdd
    ·have h3:=hro o' ho'
     rw[this.2]at h3;cases h3
 have hlt:∀i o B,h.obj i=some o->E i=some B->B.b<w.heap.size:=by
  intro i o B ho hB
  obtain⟨B',hB',hO⟩:=hr.obj i o ho
  rw[hB]at hB';cases hB'
  exact hO.lt
 refine⟨hle,⟨?_,?_,?_⟩,?_,?_,?_,hgr.os,hgr.tape,hgr.output,hgr.size,?_,?_,?_⟩
 ·intro i o ho
  rw[hobj]at ho
  by_cases e:i=h.next
  ·rw[zX e]at ho
   cases ho
   subst e
   exact⟨⟨g,cur.size,sz,0⟩,by simp[Env.put],OR.of_row rfl ⟨cur,(0,0),hcur,fun _=>⟨rfl,rfl,rfl⟩,hc.get,rfl,CR.toB fun i c hi=>let ⟨v,a,b,d⟩:=hc i c hi;⟨v,a,b.mono hle,d⟩⟩⟩
  ·rw[zW e]at ho
   split at ho
   ·cases ho
   ·rename_i hne
    obtain⟨B,hB,hO⟩:=hr.obj i o ho
    exact⟨B,hle _ _ hB,hO.mono hle (hgr.block _ hO.lt (hother i o B ho hB hne))⟩
 ·intro i j oi oj Bi Bj h1 h2 h3 h4 h5
  rw[hobj]at h1 h2
  have old:∀i o' B',i≠h.next->(if d=some i then none else h.obj i)=some o'->(E.put h.next ⟨g,cur.size,sz,0⟩) i=some B'->h.obj i=some o'/\d≠some i/\E i=some B':=by
   intro i o' B' hne ho hB
   simp only[Env.put,zW hne]at hB
   split at ho
   ·cases ho
   ·exact⟨ho,by assumption,hB⟩
  have clash:∀i o' B',i≠h.next->(if d=some i then none else h.obj i)=some o'->(E.put h.next ⟨g,cur.size,sz,0⟩) i=some B'->B'.b=g->False:=by
   intro i o' B' hne ho hB hb
   obtain⟨h6,h7,h8⟩:=old i o' B' hne ho hB
   rcases hg with hg |hg
   ·exact hother i o' B' h6 h8 h7 (by rw[hb,hg])
   ·have:=hlt i o' B' h6 h8;omega
  by_cases ei:i=h.next<;>by_cases ej:j=h.next
  ·left;rw[ei,ej]
  ·rw[zW ej]at h2
   subst ei
   simp only[Env.put,zV,zQ]at h3
   subst h3
   exact(clash j oj Bj ej h2 h4 h5.symm).elim
  ·rw[zW ei]at h1
   subst ej
   simp only[Env.put,zV,zQ]at h4
   subst h4
   exact(clash i oi Bi ei h1 h3 h5).elim
  ·rw[zW ei]at h1
   rw[zW ej]at h2
   exact hr.inj i j oi oj Bi Bj (old i oi Bi ei h1 h3).1 (old j oj Bj ej h2 h4).1 (old i oi Bi ei h1 h3).2.2 (old j oj Bj ej h2 h4).2.2 h5
 ·intro i hi
  have:((h.delO d).alloc { cells:=cells,sz:=sz,ty:=T }).next=h.next+1:=by show(h.delO d).next+1=_;rw[AH.delO_next]
  rw[this]at hi
  simp only[Env.put,zW (show i≠h.next by omega)]
  exact hr.fresh _ (by omega)
 ·show h.next<=(h.delO d).next+1
  rw[AH.delO_next];omega
 ·intro i hi hw
  rw[hobj,zW (by omega)]
  split
  ·rename_i he
   exact absurd (hd i he).1 hw
  ·rfl
 ·intro i hi h0
  rw[hobj,zW (by omega)]
  split
  ·rfl
  ·exact h0
 ·intro b hb hno
  refine hgr.block b hb ?_
  intro e
  cases hdd:d with
  |none=>rw[hn hdd]at e;cases e
  |some id=>
   obtain⟨h1,h2,⟨B,h3,h4⟩,h5⟩:=hd id hdd
   rw[h4]at e
   cases e
   cases ho:h.obj id with
   |none=>exact h2 ho
   |some o=>exact hno id B o h1 ho (h5 o ho) h3 rfl
 ·intro i B o1 h1 _ h2 h3
  rw[hobj]at h1
  by_cases e:i=h.next
  ·subst e
   simp only[Env.put,zV,zQ]at h2
   subst h2
   rcases hg with hg |hg
   ·right
    cases hdd:d with
    |none=>rw[hn hdd]at hg;cases hg
    |some id=>
     obtain⟨h4,h5,⟨B',h6,h7⟩,h8⟩:=hd id hdd
     rw[h7]at hg
     cases ho:h.obj id with
     |none=>exact absurd ho h5
     |some o=>exact⟨id,B',o,h4,ho,h8 o ho,h6,by simpa using hg⟩
   ·left;simp only;omega
  ·rw[zW e]at h1
   split at h1
   ·cases h1
   ·have:=h.lt _ _ h1;omega
 ·intro i o1 o2 h1 h2 h3
  have:=h.lt _ _ h1
  rw[hobj,zW (by omega)]at h2
  split at h2
  ·cases h2
  ·rw[h1]at h2;cases h2;exact h3
def AH.wid(h:AH)(id p:Nat)(cs:List AV):AH:=h.upd id fun o=>{ o with cells:=o.cells.take p++cs }
theorem heap_setCells{b:Nat}{T:TypeId}{fz:Nat×Nat}:∀(vs:List Value)(p:Nat)(w:World){arr:Array Value},w.heap[b]?=some (.cells arr T fz)->p+vs.length<=arr.size ->
  ∃arr',(w.setCells b p vs).heap[b]?=some (.cells arr' T fz)/\arr'.size=arr.size/\(∀k,k<p->arr'[k]?=arr[k]?)/\∀(j:Nat) v,vs[j]?=some v->arr'[p+j]?=some v
 |[],p,w,arr,h,_=>⟨arr,h,rfl,fun _ _=>rfl,fun j v hj=>by simp at hj⟩
 |x::vs,p,w,arr,h,hl=>by
  simp only[List.length_cons]at hl
  have h1:=heap_setCell w ⟨b,p,none⟩ x h rfl
  obtain⟨arr',h2,h3,h4,h5⟩:=heap_setCells vs (p+1) _ h1 (by rw[Array.size_setIfInBounds];omega)
  refine⟨arr',h2,by simpa using h3,fun k hk=>?_,fun j v hj=>?_⟩
  ·rw[h4 k (by omega)]
   simp only
   rw[Array.getElem?_setIfInBounds_ne (by omega)]
  ·cases j with
   |zero=>
    simp at hj;subst hj
    rw[Nat.add_zero,h4 p (by omega)]
    have hlt:p<arr.size:=by omega
    simp[hlt]
   |succ j=>
    simp at hj
    have:=h5 j v hj
    rw[show p+(j+1)=p+1+j by omega];exact this
theorem setCells_kept{b:Nat}:∀(vs:List Value)(p:Nat)(w:World),(w.setCells b p vs).os=w.os/\(w.setCells b p vs).tape=w.tape/\(w.setCells b p vs).output=w.output/\(w.setCells b p vs).heap.size=w.heap.size/\∀i,i≠b->(w.setCells b p vs).heap[i]?=w.heap[i]?
 |[],_,_=>⟨rfl,rfl,rfl,rfl,fun _ _=>rfl⟩
 |x::vs,p,w=>by
  obtain⟨h1,h2,h3,h4,h5⟩:=setCells_kept vs (p+1) (w.setCell ⟨b,p,none⟩ x)
  refine⟨h1,h2,h3,by rw[World.setCells,h4];simp[World.setCell],fun i hi=>?_⟩
  rw[World.setCells,h5 i hi]
  exact RowKit.Below.heap_setCell _ _ _ _ hi
theorem Step.widen{h:AH}{M:Nat->Prop}{w:World}(hr:Rel E h w){id p:Nat}{B:Blk}{o:AO}{cs:List AV}{vs:List Value}
  (ho:h.obj id=some o) (hB:E id=some B) (hk:o.kind=.row) (hro:o.ro=false) (hM:M id) (hp:p<=o.cells.length) (hfit:p+vs.length<=B.n) (hv:VRs E cs vs) (h1:∀q∈vs,q.oneCell'=true) :
  Step E h M w E (h.wid id p cs) (w.setCells B.b p vs):=by
 obtain⟨B',hB',hO⟩:=hr.obj id o ho
 obtain⟨arr,fz,hb,hfz,hle,hsz,hcr⟩:=hO.row hk
 rw[hB]at hB';cases hB'
 obtain⟨hfz,hn,hB0⟩:=hfz hro
 subst hfz
 have hcr:=hcr.zero hB0
 obtain⟨arr',g1,g2,g3,g4⟩:=heap_setCells vs p w hb (by omega)
 obtain⟨k1,k2,k3,k4,k5⟩:=setCells_kept (b:=B.b) vs p w
 have hcl:cs.length=vs.length:=hv.length
 refine⟨fun _ _ h=>h,⟨?_,?_,hr.fresh⟩,zU _,?_,?_,k1,k2,k3,by rw[k4];exact zU _,?_,?_,?_⟩
 ·intro i o' ho'
  simp only[AH.wid,AH.upd]at ho'
  by_cases e:i=id
  ·subst e
   rw[zX rfl,ho]at ho'
   simp only[yB,zQ]at ho'
   subst ho'
   refine⟨B,hB,OR.of_row hk ⟨arr',(0,0),g1,fun _=>⟨rfl,by omega,hB0⟩,?_,hsz,?_⟩⟩
   ·show(o.cells.take p++cs).length<=B.n
    rw[List.length_append,yA,hcl];omega
   rw[hB0]
   refine CR.toB ?_
   intro k d hk
   by_cases ek:k<p
   ·rw[List.getElem?_append_left (by rw[yA];omega),List.getElem?_take,zX ek]at hk
    obtain⟨u',hu',hvr,hone⟩:=hcr k d hk
    exact⟨u',by rw[g3 k ek];exact hu',hvr,hone⟩
   ·have hl:(o.cells.take p).length=p:=by rw[yA];omega
    rw[List.getElem?_append_right (by omega),hl]at hk
    obtain⟨u,hu,hvr⟩:=hv.get hk
    have:=g4 (k-p) u hu
    rw[show p+(k-p)=k by omega]at this
    exact⟨u,this,hvr,h1 u (zP hu)⟩
  ·rw[zW e]at ho'
   obtain⟨B',hB',hO⟩:=hr.obj i o' ho'
   refine⟨B',hB',hO.mono (fun _ _ h=>h) ?_⟩
   exact k5 _ (fun hbb=>(hr.inj i id o' o B' B ho' ho hB' hB hbb).elim e (fun hh=>by rw[hro]at hh;cases hh.2))
 ·intro i j oi oj Bi Bj h1 h2
  simp only[AH.wid,AH.upd]at h1 h2
  have some':∀i oi,(if i=id then Option.map (fun o=>({ o with cells:=o.cells.take p++cs }:AO)) (h.obj i) else h.obj i)=some oi->∃o',h.obj i=some o'/\o'.ro=oi.ro:=by
   intro i oi hi
   split at hi
   ·cases ho:h.obj i with
    |none=>rw[ho]at hi;cases hi
    |some o'=>rw[ho]at hi;simp only[yB,zQ]at hi;subst hi;exact⟨o',rfl,rfl⟩
   ·exact⟨oi,hi,rfl⟩
  obtain⟨a,ha,ra⟩:=some' i oi h1
  obtain⟨b,hb,rb⟩:=some' j oj h2
  rw[<-ra,<-rb]
  exact hr.inj i j a b Bi Bj ha hb
 ·intro i _ hm
  simp only[AH.wid,AH.upd]
  rw[zW (fun(e:i=id)=>hm (e ▸ hM))]
 ·intro i _ h0
  simp only[AH.wid,AH.upd]
  rw[h0];simp
 ·intro b _ hno
  exact k5 b (fun hbb=>hno id B o hM ho hro hB hbb.symm)
 ·intro i C oi hi _ _ hge
  simp only[AH.wid,AH.upd]at hi
  have:h.obj i≠none:=fun h0=>by rw[h0]at hi;simp at hi
  have:=AH.lt' this
  omega
 ·intro i o1 o2 h1' h2' h3'
  simp only[AH.wid,AH.upd]at h2'
  split at h2'
  ·rw[h1']at h2';simp only[yB,zQ]at h2';subst h2';exact h3'
  ·rw[h1']at h2';cases h2';exact h3'
def news(sz:Nat)(x:AV)(h:AH)(m:Nat)(cs:List AV):Prop:=
 match x with
 |.sl id off len=>(len=0/\m=0/\cs=[])\/(m=len/\∃o,h.obj id=some o/\o.kind=.row/\off+len*sz<=o.cells.length/\cs=(o.cells.drop off).take (len*sz))
 |.sc (.slice _ 0 _)=>m=0/\cs=[]
 |_=>False
def eApp(a:Option (Nat×Nat×TypeId))(x y:AV)(h:AH)(W:Nat->Prop)(K:AV->AH->Prop):Prop:=
 match a with
 |none=>False
 |some (sz,bytes,e)=>∃m cs,news sz y h m cs /\
  match x with
  |.sc (.slice none 0 0)=>if m=0 then K (.sc (.slice none 0 0)) h else(m<=140737488355328/\m*bytes<=140737488355328)/\K (.sl h.next 0 m) (h.alloc { cells:=cs,sz:=sz,ty:=e })
  |.sl id off n=>if m=0 then K (.sl id off n) h else
    (off=0/\∃o,(W id/\h.obj id=some o/\o.kind=.row/\o.ro=false/\o.sz=sz/\o.ty=e/\n*sz<=o.cells.length/\n+m<=140737488355328/\(n+m)*bytes<=140737488355328) /\
     K (.sl h.next 0 (n+m)) ((h.del id).alloc { cells:=o.cells.take (n*sz)++cs,sz:=sz,ty:=e })) \/
    (off=0/\∃o,(W id/\h.obj id=some o/\o.kind=.row/\o.ro=false/\o.sz=sz/\o.ty=e/\n*sz<=o.cells.length/\n+m<=140737488355328/\(n+m)*bytes<=140737488355328) /\
     K (.sl id 0 (n+m)) (h.wid id (n*sz) cs)/\K (.sl h.next 0 (n+m)) (h.alloc { cells:=o.cells.take (n*sz)++cs,sz:=sz,ty:=e }))
  |_=>False
theorem append_none_run{t ty e:TypeId}{i:TypeInfo}(w:World)(ht:P.underlying t=some (.slice e))(hi:P.info? e=some i)(base:Option Addr)(n cap:Nat)(hc:n<=cap)
  (x:Option Addr) (c:Nat) :
  (Builtin.append_ #[t,t] ty #[.slice base n cap,.slice x 0 c]).run P w=.ok (.slice base n cap) w:=by
 simp only[Builtin.append_]
 simp[under_run ht,sizeOf,typeInfo,hi,Builtin.lenOf,hc]
 cases base with
 |none=>cases x<;>simp[Builtin.firstCells,loadCells,loadCellsFrom]
 |some a=>cases x<;>simp[Builtin.firstCells,loadCells,loadCellsFrom,storeCells]
theorem eApp_ok{t ty:TypeId}{h:AH}{W:Nat->Prop}{w:World}{K:AV->AH->Prop}{x y:AV}{v u:Value}(hr:Rel E h w)(hx:VR E x v)(hy:VR E y u)
  (hp:eApp (appOf P t) x y h W K):ES P E h W w (Builtin.append_ #[t,t] ty #[v,u]) K:=by
 unfold eApp at hp
 split at hp
 ·exact hp.elim
 rename_i sz bytes e he
 have htab:∃i z,P.underlying t=some (.slice e)/\P.info? e=some i/\i.zero=some z/\i.size=sz/\i.bytes=bytes/\z.cells.size=sz/\0<sz:=by
  unfold appOf at he
  split at he<;>try cases he
  rename_i e' hu
  split at he<;>try cases he
  rename_i i hi
  split at he<;>try cases he
  rename_i z hz
  split at he<;>try cases he
  rename_i hc
  exact⟨i,z,hu,hi,hz,rfl,rfl,hc.1,hc.2⟩
 obtain⟨i,z,hu,hi,hz,hsz,hby,hzs,hpos⟩:=htab
 obtain⟨m,cs,hnews,hp⟩:=hp
 have src:(m=0/\∃xa c,u=.slice xa 0 c)\/∃(ad:Addr)(c:Nat)(nv:List Value),u=.slice (some ad) m c/\nv.length=m*sz/\(∀(j:Nat)(q:Value),nv[j]?=some q->w.cell? (ad.add j)=some q)/\VRs E cs nv/\(∀q∈nv,q.oneCell'=true):=by
  unfold news at hnews
  split at hnews
  ·rename_i id off len
   rcases hnews with⟨h0,rfl,rfl⟩ |⟨rfl,o,ho,hk,hlen,rfl⟩
   ·subst h0
    cases hy with
    |sl hB hof hc hl hm=>exact .inl ⟨rfl,_,_,rfl⟩
   cases hy with
   |sl hB hof hc hl hm=>
    rename_i o' cap B
    by_cases h0:m=0
    ·subst h0;exact .inl ⟨rfl,_,_,rfl⟩
    ·right
     have:o'=B.o+off:=by omega
     subst this
     obtain⟨B',hB',hO⟩:=hr.obj id o ho
     rw[hB]at hB';cases hB'
     obtain⟨arr,fz,hb,_,hn,_,hcr⟩:=hO.row hk
     have hs:=hcr.get
     have hm0:0<m*sz:=Nat.mul_pos (by omega) hpos
     refine⟨⟨B.b,B.o+off,none⟩,cap,(arr.extract (B.o+off) (B.o+off+m*sz)).toList,rfl,by simp;omega,?_,hcr.vrs hlen,?_⟩
     ·intro j q hj
      have hjl:j<m*sz:=by
       have:=(zM.1 hj).1
       simp at this;omega
      have ha:(⟨B.b,B.o+off,none⟩:Addr).add j=⟨B.b,B.o+off+j,none⟩:=by unfold Addr.add;by_cases hk:j=0<;>simp[hk]
      rw[ha]
      rw[Array.getElem?_toList,Array.getElem?_extract,zX (by omega)]at hj
      simp[World.cell?,hb,hj]
     ·intro q hq
      obtain⟨j,hj,rfl⟩:=List.mem_iff_getElem.1 hq
      have hjl:j<m*sz:=by simp at hj;omega
      obtain⟨q',hq',_,h1⟩:=hcr (off+j) (o.cells[off+j]'(by omega)) (zJ (by omega))
      have:((arr.extract (B.o+off) (B.o+off+m*sz)).toList)[j]?=arr[B.o+(off+j)]?:=by rw[Array.getElem?_toList,Array.getElem?_extract,zX (by omega),Nat.add_assoc]
      rw[zJ hj,hq']at this
      rw[Option.some.inj this];exact h1
  ·obtain⟨rfl,rfl⟩:=hnews
   cases hy
   exact .inl ⟨rfl,_,_,rfl⟩
  ·exact hnews.elim
 have fin:∀(xs:List Value)(n:Nat)(d row:Option Nat)(oc:List AV)(ad:Addr)(c:Nat)(nv:List Value),(∀id,d=some id->W id/\h.obj id≠none/\(∃B,E id=some B/\row=some B.b)/\∀o,h.obj id=some o->o.ro=false)->(d=none->row=none) ->
   v.ownBlock=row->w.ownsRow 0 e sz v n xs->VRs E oc xs->(∀q∈xs,q.oneCell'=true)->0<m->n+m<=140737488355328->(n+m)*bytes<=140737488355328 ->
   u=.slice (some ad) m c->nv.length=m*sz->(∀(j:Nat)(q:Value),nv[j]?=some q->w.cell? (ad.add j)=some q)->VRs E cs nv->(∀q∈nv,q.oneCell'=true) ->
   K (.sl h.next 0 (n+m)) ((h.delO d).alloc { cells:=oc++cs,sz:=sz,ty:=e })->ES P E h W w (Builtin.append_ #[t,t] ty #[v,u]) K:=by
  intro xs n d row oc ad c nv hd hdn hrow hown hxs hx1 hm0 hb1 hb2 hue hnl hncell hnv hn1 hK
  subst hue
  obtain⟨g,cap,w',hrun,hown',hgr,hor,_⟩:=run_append_lies (P:=P) (w:=w) t ty 0 e i z sz bytes hu hi hz hsz hby hzs hpos v n xs hown ad m c nv hnl hncell hn1 hm0 (by unfold maxLen;omega) hb2 (Nat.zero_le _) w.heap.size rfl
  obtain⟨hlen,hcase⟩:=hown'
  rcases hcase with⟨h1,_⟩ |⟨g',cap',cur,h1,_,hcur,hle,hmax,hcs,htake⟩
  ·cases h1
  ·cases h1
   have hcr:CR E (oc++cs) cur:=by
    have hv:=hxs.append hnv
    rw[<-htake]at hv
    intro j q hj
    obtain⟨q',hq',hvr⟩:=hv.get hj
    have hjl:j<(n+m)*sz:=by
     have:=(zM.1 hq').1
     simp at this;omega
    rw[List.getElem?_take,zX hjl]at hq'
    refine⟨q',by simpa using hq',hvr,?_⟩
    have:q'∈xs++nv:=by rw[<-htake];exact zP (by rw[List.getElem?_take,zX hjl];exact hq')
    rcases List.mem_append.1 this with h |h
    ·exact hx1 _ h
    ·exact hn1 _ h
   have hst:=Step.grow (W:=W) hr d hd hdn (g:=g) (by rw[<-hrow];exact hor.imp id (fun h=>by omega)) (by rw[<-hrow];exact hgr) hcur sz hcr
   refine⟨_,_,_,_,w',hst,?_,hK,hrun⟩
   exact .sl (B:=⟨g,cur.size,sz,0⟩) (by simp[Env.put]) (.inl rfl) (by simp[hcs]) hle hmax
 split at hp
 ·cases hx
  rcases src with⟨rfl,xa,c,rfl⟩ |⟨ad,c,nv,h1,h2,h3,h4,h5⟩
  ·simp only[zV]at hp
   exact⟨_,_,E,h,w,Step.refl hr,.sc _,hp,append_none_run w hu hi none 0 0 (zU _) xa c⟩
  ·by_cases hm:m=0
   ·subst hm
    simp only[zV]at hp
    subst h1
    exact⟨_,_,E,h,w,Step.refl hr,.sc _,hp,append_none_run w hu hi none 0 0 (zU _) (some ad) c⟩
   ·rw[zW hm]at hp
    exact fin [] 0 none none [] ad c nv (by simp) (by simp) rfl (World.ownsRow_nil _ _ _ _) .nil (by simp) (by omega) (by omega) (by simpa using hp.1.2) h1 h2 h3 h4 h5 (by simpa[AH.delO] using hp.2)
 ·rename_i id off n
  cases hx with
  |sl hB hof hc hl hmx=>
   rename_i o' cap B
   rcases src with⟨rfl,xa,c,rfl⟩ |⟨ad,c,nv,h1,h2,h3,h4,h5⟩
   ·simp only[zV]at hp
    exact⟨_,_,E,h,w,Step.refl hr,.sl hB hof hc hl hmx,hp,append_none_run w hu hi _ n cap hl xa c⟩
   ·by_cases hm:m=0
    ·subst hm
     simp only[zV]at hp
     subst h1
     exact⟨_,_,E,h,w,Step.refl hr,.sl hB hof hc hl hmx,hp,append_none_run w hu hi _ n cap hl (some ad) c⟩
    ·rw[zW hm]at hp
     rcases hp with hp |hp
     ·obtain⟨rfl,o,⟨hW,ho,hk,hro,hosz,hoty,hnl,hb1,hb2⟩,hp⟩:=hp
      obtain⟨B',hB',hO⟩:=hr.obj id o ho
      rw[hB]at hB';cases hB'
      obtain⟨arr,fz,hb,hfz,_,hbs,hcr⟩:=hO.row hk
      obtain⟨hfz,hn,hB0⟩:=hfz hro
      subst hfz
      have:o'=0:=by omega
      subst this
      have hcr:=hcr.zero hB0
      have hs:=hcr.get
      have hv:=hcr.toB.vrs (off:=0) (n:=n*sz) (by omega)
      simp only[zG]at hv
      refine fin (arr.extract 0 (n*sz)).toList n (some id) (some B.b) (o.cells.take (n*sz)) ad c nv ?_ (by simp) rfl ?_ (by simpa using hv) ?_ (by omega) hb1 hb2 h1 h2 h3 h4 h5 hp
      ·intro id' hid
       cases hid
       exact⟨hW,by rw[ho];simp,⟨B,hB,rfl⟩,fun o2 h2=>by rw[ho]at h2;cases h2;exact hro⟩
      ·refine⟨by simp;omega,.inr ⟨B.b,cap,arr,rfl,Nat.zero_le _,by rw[<-hoty];exact hb,hl,hmx,?_,?_⟩⟩
       ·rw[hn,<-hc,hbs,hosz];omega
       ·simp[List.extract_eq_take_drop]
      ·intro q hq
       obtain⟨j,hj,rfl⟩:=List.mem_iff_getElem.1 hq
       have hjl:j<n*sz:=by simp at hj;omega
       obtain⟨q',hq',_,h1⟩:=hcr j (o.cells[j]'(by omega)) (zJ (by omega))
       have:((arr.extract 0 (n*sz)).toList)[j]?=arr[j]?:=by rw[Array.getElem?_toList,Array.getElem?_extract,zX (by omega)];simp
       rw[zJ hj,hq']at this
       rw[Option.some.inj this];exact h1
     ·obtain⟨rfl,o,⟨hW,ho,hk,hro,hosz,hoty,hnl,hb1,hb2⟩,hpa,hpb⟩:=hp
      obtain⟨B',hB',hO⟩:=hr.obj id o ho
      rw[hB]at hB';cases hB'
      have hO':=hO.row hk
      obtain⟨arr,fz,hb,hfz,hcn,hbs,hcr⟩:=hO'
      obtain⟨hfz,hn,hB0⟩:=hfz hro
      subst hfz
      have:o'=0:=by omega
      subst this
      have hcr:=hcr.zero hB0
      have hs:=hcr.get
      have hv:=hcr.toB.vrs (off:=0) (n:=n*sz) (by omega)
      simp only[zG]at hv
      have hold1:∀q∈(arr.extract 0 (n*sz)).toList,q.oneCell'=true:=by
       intro q hq
       obtain⟨j,hj,rfl⟩:=List.mem_iff_getElem.1 hq
       have hjl:j<n*sz:=by simp at hj;omega
       obtain⟨q',hq',_,h1⟩:=hcr j (o.cells[j]'(by omega)) (zJ (by omega))
       have:((arr.extract 0 (n*sz)).toList)[j]?=arr[j]?:=by rw[Array.getElem?_toList,Array.getElem?_extract,zX (by omega)];simp
       rw[zJ hj,hq']at this
       rw[Option.some.inj this];exact h1
      subst h1
      have hcap:cap*sz=B.n:=by rw[<-hc,hbs,hosz];omega
      have src:Src P i.size t (.slice (some ad) m c) m nv w:=Src.ofSlice w hu ad m c nv (by rw[h2,hsz]) h3 h5
      by_cases hroom:n+m<=cap
      ·have hfit:n*sz+nv.length<=B.n:=by rw[h2,<-hcap,<-Nat.add_mul];exact Nat.mul_le_mul_right _ hroom
       have hst:=Step.widen (M:=W) hr ho hB hk hro hW hnl hfit h4 h5
       refine⟨_,_,E,_,_,hst,.sl (o:=0) (off:=0) hB (.inl (by omega)) hc hroom hmx,hpa,?_⟩
       have:=run_append_room_src (P:=P) (w:=w) t t ty e i hu hi B.b 0 n cap (.slice (some ad) m c) m nv src hroom ?_ ?_
       ·rw[hsz,zG]at this;rw[hB0]at *;exact this
       ·intro j hj
        rw[hsz]
        have hlt:n*sz+j<arr.size:=by omega
        simp[World.cell?,hb,hlt]
       ·intro j hj
        simp[World.frozen?,hb]
      ·have hcr':CR E (o.cells.take (n*sz)++cs) (((arr.extract 0 (n*sz)).toList++nv).toArray++Builtin.zeroCells z.cells (grownCap w (n+m) cap e-(n+m))):=by
        have hva:=hv.append h4
        intro j q hj
        obtain⟨q',hq',hvr⟩:=hva.get (by simpa using hj)
        refine⟨q',?_,hvr,?_⟩
        ·have hjl:=(zM.1 hq').1
         rw[Array.getElem?_append_left (by simpa using hjl)]
         simpa using hq'
        ·rcases List.mem_append.1 (zP hq') with h |h
         ·exact hold1 _ h
         ·exact h5 _ h
       have hdr:Step E h W w E h w.drew:=Step.drew hr rfl rfl rfl rfl
       have hal:=Step.alloc (M:=W) hdr.rel (o:={ cells:=o.cells.take (n*sz)++cs,sz:=sz,ty:=e }) rfl hcr'
       have hst:=Step.trans hr hdr hal (fun _ _ h=>.inl h)
       have hge:=grownCap_ge w (n+m) cap e
       have hel:((arr.extract 0 (n*sz)).toList).length=n*sz:=by simp;omega
       have hfc:(Builtin.firstCells i.size n (.slice (some ⟨B.b,0,none⟩) n cap)).run P w.drew=.ok ((arr.extract 0 (n*sz)).toList).toArray w.drew:=by
        refine run_firstCells_some w.drew i.size n ⟨B.b,0,none⟩ n cap _ (by rw[hel,hsz]) fun j u hj=>?_
        have hjl:j<n*sz:=by have:=(zM.1 hj).1;omega
        have ha:(⟨B.b,0,none⟩:Addr).add j=⟨B.b,j,none⟩:=by unfold Addr.add;by_cases hk:j=0<;>simp[hk]
        rw[ha]
        rw[Array.getElem?_toList,Array.getElem?_extract,zX (by omega)]at hj
        have hd:w.drew.cell? ⟨B.b,j,none⟩=w.cell? ⟨B.b,j,none⟩:=rfl
        rw[zG]at hj
        rw[hd]
        simp[World.cell?,hb,hj]
       have hrun:=run_append_grow_src (P:=P) (w:=w) t t ty e i z hu hi hz (some ⟨B.b,0,none⟩) n cap _ hfc (.slice (some ad) m c) m nv src (by omega) (by omega) (growslice_fits (by omega) (by rw[hby];exact hb2))
       refine⟨_,_,_,_,_,hst,.sl (B:=⟨w.drew.heap.size,_,sz,0⟩) (zX rfl) (.inl rfl) ?_ hge (grownCap_le_maxLen w (n+m) cap e (by unfold maxLen;omega)),hpb,?_⟩
       ·simp only[Array.size_append,List.size_toArray,List.length_append,size_zeroCells,hzs,hel,h2,<-Nat.add_mul,zG]
        congr 1
        omega
       ·rw[hB0]at *
        exact hrun
 ·exact hp.elim
def eAppS(a:Option TypeId)(x y:AV)(h:AH)(W:Nat->Prop)(K:AV->AH->Prop):Prop:=
 match a,y with
 |some e,.sc (.string s)=>
  match x with
  |.sc (.slice none 0 0)=>if s.size=0 then K (.sc (.slice none 0 0)) h else s.size<=140737488355328/\K (.sl h.next 0 s.size) (h.alloc { cells:=strC s.data.toList,sz:=1,ty:=e })
  |.sl id off n=>off=0/\∃o,(W id/\h.obj id=some o/\o.kind=.row/\o.ro=false/\o.sz=1/\o.ty=e/\n<=o.cells.length/\n+s.size<=140737488355328) /\
    K (.sl h.next 0 (n+s.size)) ((h.del id).alloc { cells:=o.cells.take n++strC s.data.toList,sz:=1,ty:=e })
  |_=>False
 |_,_=>False
theorem strC_vrs(s:ByteArray):VRs E (strC s.data.toList) (Lib.strCells s):=by
 unfold strC Lib.strCells
 generalize s.data.toList=l
 induction l with
 |nil=>exact .nil
 |cons b l ih=>exact .cons (.sc _) ih
theorem eAppS_ok{t u ty:TypeId}{h:AH}{W:Nat->Prop}{w:World}{K:AV->AH->Prop}{x y:AV}{v z:Value}(hr:Rel E h w)(hx:VR E x v)(hy:VR E y z)
  (hp:eAppS (appSOf P t u) x y h W K):ES P E h W w (Builtin.append_ #[t,u] ty #[v,z]) K:=by
 unfold eAppS at hp
 split at hp
 ·rename_i e s he
  have htab:∃i,P.underlying t=some (.slice e)/\P.underlying u=some .string/\P.info? e=some i/\i.zero=some (.int .u8 0)/\i.size=1/\i.bytes=1:=by
   unfold appSOf at he
   split at he<;>try cases he
   rename_i e' hu hs
   split at he<;>try cases he
   rename_i i hi
   split at he<;>try cases he
   rename_i hz
   split at he<;>try cases he
   rename_i hc
   exact⟨i,hu,hs,hi,hz,hc.1,hc.2⟩
  obtain⟨i,hu,hs,hi,hz,hsz,hby⟩:=htab
  cases hy
  have hones:∀q∈Lib.strCells s,q.oneCell'=true:=by
   intro q hq
   unfold Lib.strCells at hq
   obtain⟨b,_,rfl⟩:=List.mem_map.1 hq
   rfl
  have hsl:(Lib.strCells s).length=s.size:=Lib.strCells_length s
  have fin:∀(n:Nat)(oc:List AV)(xs cur:List Value),VRs E oc xs->(∀q∈xs,q.oneCell'=true)->cur.take ((n+s.size)*1)=xs++Lib.strCells s->xs.length=n->CR E (oc++strC s.data.toList) cur.toArray:=by
   intro n oc xs cur hxs hx1 htake hxl j q hj
   have hv:=hxs.append (strC_vrs (E:=E) s)
   rw[<-htake]at hv
   obtain⟨q',hq',hvr⟩:=hv.get hj
   have hjl:j<(n+s.size)*1:=by
    have:=(zM.1 hq').1
    simp at this;omega
   rw[List.getElem?_take,zX hjl]at hq'
   refine⟨q',by simpa using hq',hvr,?_⟩
   have:q'∈xs++Lib.strCells s:=by rw[<-htake];exact zP (by rw[List.getElem?_take,zX hjl];exact hq')
   rcases List.mem_append.1 this with h |h
   ·exact hx1 _ h
   ·exact hones _ h
  split at hp
  ·cases hx
   split at hp
   ·rename_i h0
    obtain⟨v',w',hrun,hown,hgr,hiff⟩:=Lib.run_append_own_string (P:=P) (w:=w) w.heap.size t u ty e i hu hs hi hz hsz hby (.slice none 0 0) 0 [] (World.ownsRow_nil _ _ _ _) s (by rw[h0];unfold maxLen;omega) (by omega) (zU _)
    have hv':=hiff.2 ⟨rfl,h0⟩
    subst hv'
    have hst:Step E h W w E h w':=by
     have hb:∀b,b<w.heap.size->w'.heap[b]?=w.heap[b]?:=fun b hb=>hgr.block b hb (by simp[Value.ownBlock])
     exact⟨fun _ _ h=>h,⟨fun id o ho=>let ⟨B,hB,hO⟩:=hr.obj id o ho;⟨B,hB,hO.mono (fun _ _ h=>h) (hb _ hO.lt)⟩,hr.inj,hr.fresh⟩,zU _,fun _ _ _=>rfl,fun _ _ h=>h,hgr.os,hgr.tape,hgr.output,hgr.size,fun b hb' _=>hb b hb',
      fun id B o h1 _ _ h3=>(by have:=h.lt _ _ h1;omega),fun id o o' h1 h2 h3=>by rw[h1]at h2;cases h2;exact h3⟩
    exact⟨_,_,E,h,w',hst,.sc _,hp,hrun⟩
   ·rename_i h0
    obtain⟨hb,hp⟩:=hp
    obtain⟨v',w',hrun,hown,hgr,hiff⟩:=Lib.run_append_own_string (P:=P) (w:=w) w.heap.size t u ty e i hu hs hi hz hsz hby (.slice none 0 0) 0 [] (World.ownsRow_nil _ _ _ _) s (by unfold maxLen;omega) (by omega) (zU _)
    obtain⟨_,hcase⟩:=hown
    rcases hcase with⟨h1,_⟩ |⟨g,cap,cur,h1,hge,hcur,hle,hmax,hcs,htake⟩
    ·have:=(hiff.1 h1).2;omega
    ·subst h1
     have hcr:CR E ([]++strC s.data.toList) cur.toList.toArray:=fin 0 [] [] cur.toList .nil (by simp) (by simpa using htake) rfl
     have hst:=Step.grow (W:=W) hr none (row:=none) (by simp) (by simp) (g:=g) (.inr hge) hgr (T:=e) (cur:=cur) hcur (cells:=strC s.data.toList) 1 (by simpa using hcr)
     simp only[zG]at *
     exact⟨_,_,_,_,w',hst,.sl (B:=⟨g,cur.size,1,0⟩) (by simp[Env.put]) (.inl rfl) (by simp[hcs]) hle hmax,hp,hrun⟩
  ·rename_i id off n
   cases hx with
   |sl hB hof hc hl hmx=>
    rename_i o' cap B
    obtain⟨rfl,o,⟨hW,ho,hk,hro,hosz,hoty,hnl,hb1⟩,hp⟩:=hp
    obtain⟨B',hB',hO⟩:=hr.obj id o ho
    rw[hB]at hB';cases hB'
    obtain⟨arr,fz,hb,hfz,_,hbs,hcr⟩:=hO.row hk
    obtain⟨hfz,hn,hB0⟩:=hfz hro
    subst hfz
    have:o'=0:=by omega
    subst this
    have hcr:=hcr.zero hB0
    have hs':=hcr.get
    have hv:=hcr.toB.vrs (off:=0) (n:=n) (by omega)
    simp only[zG]at hv
    have hown:w.ownsRow 0 e 1 (.slice (some ⟨B.b,0,none⟩) n cap) n (arr.extract 0 n).toList:=by
     refine⟨by simp;omega,.inr ⟨B.b,cap,arr,rfl,Nat.zero_le _,by rw[<-hoty];exact hb,hl,hmx,?_,?_⟩⟩
     ·rw[hn,<-hc,hbs,hosz];omega
     ·simp[List.extract_eq_take_drop]
    have hx1:∀q∈(arr.extract 0 n).toList,q.oneCell'=true:=by
     intro q hq
     obtain⟨j,hj,rfl⟩:=List.mem_iff_getElem.1 hq
     have hjl:j<n:=by simp at hj;omega
     obtain⟨q',hq',_,h1⟩:=hcr j (o.cells[j]'(by omega)) (zJ (by omega))
     have:((arr.extract 0 n).toList)[j]?=arr[j]?:=by rw[Array.getElem?_toList,Array.getElem?_extract,zX (by omega)];simp
     rw[zJ hj,hq']at this
     rw[Option.some.inj this];exact h1
    obtain⟨v',w',hrun,hown',hgr,hiff⟩:=Lib.run_append_own_string (P:=P) (w:=w) 0 t u ty e i hu hs hi hz hsz hby _ n _ hown s (by unfold maxLen;omega) hb1 (Nat.zero_le _)
    have hwhere:∃g c,v'=.slice (some ⟨g,0,none⟩) (n+s.size) c/\(some B.b=some g\/w.heap.size<=g):=by
     have hcsz:arr.size=cap:=by rw[hn,<-hc,hbs,hosz];omega
     by_cases hroom:n+s.size<=cap
     ·have hr2:=Lib.run_append_room_string (P:=P) (w:=w) t u ty e i hu hs hi hsz B.b n cap arr (by rw[<-hoty];exact hb) s hroom (by omega)
      rw[hr2]at hrun
      injection hrun with e1 e2
      exact⟨B.b,cap,e1.symm,.inl rfl⟩
     ·have hr2:=Lib.run_append_grow_string (P:=P) (w:=w) t u ty e i (.int .u8 0) hu hs hi hz ⟨B.b,0,none⟩ n cap _ (by rw[hsz];simpa using hown.1) (fun j q hq=>hown.cells (g:=B.b) rfl j q hq) s (by omega) (by omega) (by rw[hby];exact growslice_fits (by omega) (by omega))
      rw[hr2]at hrun
      injection hrun with e1 e2
      exact⟨w.heap.size,_,e1.symm,.inr (zU _)⟩
    obtain⟨g,c,rfl,hg⟩:=hwhere
    obtain⟨_,hcase⟩:=hown'
    rcases hcase with⟨h1,_⟩ |⟨g',cap',cur,h1,_,hcur,hle,hmax,hcs,htake⟩
    ·cases h1
    ·cases h1
     have hcr2:CR E (o.cells.take n++strC s.data.toList) cur.toList.toArray:=fin n _ _ cur.toList (by simpa using hv) hx1 (by simpa using htake) (by simpa using hown.1)
     have hst:=Step.grow (W:=W) hr (some id) (row:=some B.b) (fun id' he'=>by cases he';exact⟨hW,by rw[ho];simp,⟨B,hB,rfl⟩,fun o2 h2=>by rw[ho]at h2;cases h2;exact hro⟩) (by simp) hg hgr hcur 1 (by simpa using hcr2)
     exact⟨_,_,_,_,w',hst,.sl (B:=⟨g,cur.size,1,0⟩) (by simp[Env.put]) (.inl rfl) (by simp[hcs]) hle hmax,hp,hrun⟩
  ·exact hp.elim
 ·exact hp.elim
end
section
variable {P:Program} {E:Env}
def zcells(n:Nat)(z:List Value):List Value:=(List.range n).map fun i=>z[i%z.length]!
def bslZ(P:Program)(t:TypeId)(len:Nat):Option (Nat×TypeId×List Value):=
 match P.underlying t with
 |some (.slice e)=>match szOf P e,zeroOf P e with
  |some n,some z=>if len*n<=16777216/\len<=16777216 then some (n,e,zcells (len*n) z) else none
  |_,_=>none
 |_=>none
def eBSl(z:Option (Nat×TypeId×List Value))(len:Nat)(parts:List (Nat×AV))(h:AH)(K:AV->AH->Prop):Prop:=
 match z with
 |some (sz,e,z0)=>∃cells,(aFill (fun i=>some (i*sz,sz)) (z0.map .sc) parts=some cells/\cells.all oneA=true)/\K (.sl h.next 0 len) (h.alloc { cells:=cells,sz:=sz,ty:=e })
 |none=>False
theorem aFill_length{place:Nat->Option (Nat×Nat)}:∀(parts:List (Nat×AV))(cells cells':List AV),aFill place cells parts=some cells'->cells'.length=cells.length
 |[],cells,cells',h=>by simp only[aFill,zQ]at h;rw[h]
 |(i,x)::parts,cells,cells',h=>by
  simp only[aFill]at h
  split at h
  ·split at h
   ·rw[aFill_length parts _ _ h,putCells_length]
   ·cases h
  ·cases h
theorem zcells_arr(n:Nat)(z:Array Value):zcells n z.toList=((Array.range n).map (fun i=>z[i%z.size]!)).toList:=by
 unfold zcells
 simp only[Array.length_toList,Array.toList_map,Array.toList_range]
 refine List.map_congr_left fun a _=>?_
 rw[List.getElem!_eq_getElem?_getD,Array.getElem!_eq_getD,Array.getElem?_toList]
 cases h:z[a%z.size]?<;>simp[h]
theorem eBSl_ok{t:TypeId}{len:Nat}{h:AH}{W:Nat->Prop}{w:World}{K:AV->AH->Prop}{parts:List (Nat×AV)}{pv:Array (Nat×Value)}(hr:Rel E h w)
  (hps:F2 (fun a b=>a.1=b.1/\VR E a.2 b.2) parts pv.toList) (hp:eBSl (bslZ P t len) len parts h K):ES P E h W w (Instr.buildSlice t len pv) K:=by
 unfold eBSl at hp
 split at hp
 ·rename_i sz e z0 hz
  obtain⟨cells,⟨hf,h1⟩,hp⟩:=hp
  unfold bslZ at hz
  split at hz<;>try cases hz
  rename_i e' hu
  split at hz<;>try cases hz
  rename_i n z hn hzo
  split at hz<;>try cases hz
  rename_i hb
  obtain⟨v,hv,hrun⟩:=zeroOf_run hzo
  have hzv:VRs E ((zcells (len*sz) z).map .sc) ((Array.range (len*sz)).map (fun i=>v.cells[i%v.cells.size]!)).toList:=by
   rw[<-zcells_arr,hv];exact VRs.lift E _
  obtain⟨arr',hfill,hvr⟩:=fill_ok (place:=fun i=>some (i*sz,sz)) parts pv.toList _ cells _ hps hzv hf
  have hlen:arr'.size=len*sz:=by
   have:=hvr.length
   rw[aFill_length _ _ _ hf]at this
   simp[zcells]at this
   omega
  have hcr:CR E cells arr':=by simpa using hvr.cr (hvr.one h1)
  refine⟨_,.slice (some ⟨w.heap.size,0,none⟩) len len,_,_,_,Step.alloc (o:={ cells:=cells,sz:=sz,ty:=e }) hr rfl hcr,?_,hp,?_⟩
  ·exact .sl (B:=⟨w.heap.size,arr'.size,sz,0⟩) (by simp[Env.put]) (.inl rfl) (by simp[hlen]) (zU _) (by unfold maxLen;omega)
  ·have hle:¬len*sz > 2^24:=by have:=hb.1;omega
   simp only[Instr.buildSlice,Sem.run_bind,under_run hu,Result.andThen_ok,szOf_run hn]
   rw[zW hle]
   by_cases h0:len*sz=0
   ·have he:(Array.range (len*sz)).map (fun i=>v.cells[i%v.cells.size]!)=(Array.range (len*sz)).map (fun i=>(#[]:Array Value)[i%(#[]:Array Value).size]!):=by simp[h0]
    rw[he]at hfill
    simp[h0]at hfill ⊢
    simp[hfill,newRow]
   ·simp[h0,hrun,hfill,newRow]
 ·exact hp.elim
def mkOf(P:Program)(t:TypeId):Option (Nat×Nat×TypeId×List Value):=
 match P.underlying t with
 |some (.slice e)=>match P.info? e,zeroOf P e with
  |some i,some z=>if 0<i.size then some (i.size,i.bytes,e,z) else none
  |_,_=>none
 |_=>none
def eMk(a:Option (Nat×Nat×TypeId×List Value))(l c:AV)(h:AH)(K:AV->AH->Prop):Prop:=
 match a,l,c with
 |some (sz,bytes,e,z),.sc (.int _ n),.sc (.int _ m)=>(0<=n/\n<=m/\m<=140737488355328/\m*bytes<=140737488355328/\z.all (·.oneCell')=true/\z.length=sz) /\
   K (.sl h.next 0 n.toNat) (h.alloc { cells:=(zcells (n.toNat*sz) z).map .sc,sz:=sz,ty:=e })
 |_,_,_=>False
theorem wrap_id{n:Int}(h0:0<=n)(h1:n<=140737488355328):IntKind.i64.wrap n=n:=IntWalk.i64_in _ (by omega)
theorem eMk_ok{t:TypeId}{h:AH}{W:Nat->Prop}{w:World}{K:AV->AH->Prop}{l c:AV}{lv cv:Value}(hr:Rel E h w)(hl:VR E l lv)(hc:VR E c cv)(hp:eMk (mkOf P t) l c h K) :
  ES P E h W w (Instr.makeSlice t lv cv) K:=by
 unfold eMk at hp
 split at hp
 ·rename_i sz bytes e z k n k' m hz
  obtain⟨⟨h0,h1,h2,h3,h4,h5⟩,hp⟩:=hp
  unfold mkOf at hz
  split at hz<;>try cases hz
  rename_i e' hu
  split at hz<;>try cases hz
  rename_i i z' hi hzo
  split at hz<;>try cases hz
  rename_i hpos
  obtain⟨v,hv,hrun⟩:=zeroOf_run hzo
  cases hl;cases hc
  have hw1:=wrap_id (n:=n) h0 (by omega)
  have hw2:=wrap_id (n:=m) (by omega) h2
  have hzp:0<z.length:=by omega
  have hsub:∀(j:Nat),j<n.toNat*i.size->(zcells (n.toNat*i.size) z)[j]?=(zcells (m.toNat*i.size) z)[j]?:=by
   intro j hj
   have:n.toNat*i.size<=m.toNat*i.size:=Nat.mul_le_mul_right _ (by omega)
   unfold zcells
   simp only[List.getElem?_map,List.getElem?_range hj,List.getElem?_range (Nat.lt_of_lt_of_le hj this)]
  have hmem:∀N,∀q∈zcells N z,q.oneCell'=true:=by
   intro N q hq
   unfold zcells at hq
   simp only[List.mem_map,List.mem_range]at hq
   obtain⟨j,_,rfl⟩:=hq
   refine(List.all_eq_true.1 h4) _ ?_
   rw[List.getElem!_eq_getElem?_getD,zJ (Nat.mod_lt _ hzp)]
   simp
  have hcr:CR E ((zcells (n.toNat*i.size) z).map .sc) ((Array.range (m.toNat*i.size)).map (fun j=>v.cells[j%v.cells.size]!)):=by
   intro j q hj
   rw[List.getElem?_map]at hj
   cases hq:(zcells (n.toNat*i.size) z)[j]? with
   |none=>rw[hq]at hj;cases hj
   |some u=>
    rw[hq]at hj
    cases hj
    have hjl:j<n.toNat*i.size:=by
     have:=(zM.1 hq).1
     simpa[zcells] using this
    refine⟨u,?_,.sc _,hmem _ _ (zP hq)⟩
    rw[hsub j hjl,<-hv,zcells_arr]at hq
    rw[Array.getElem?_toList]at hq
    exact hq
  refine⟨_,.slice (some ⟨w.heap.size,0,none⟩) n.toNat m.toNat,_,_,_,Step.alloc (o:={ cells:=(zcells (n.toNat*i.size) z).map .sc,sz:=i.size,ty:=e }) hr rfl hcr,?_,hp,?_⟩
  ·exact .sl (B:=⟨w.heap.size,_,i.size,0⟩) (by simp[Env.put];rfl) (.inl rfl) (by simp) (by omega) (by unfold maxLen;omega)
  ·have hbn:(m*(i.bytes:Int))<=140737488355328:=h3
   have hcm:(i.bytes:Int)*m=m*(i.bytes:Int):=Int.mul_comm _ _
   simp only[Instr.makeSlice,Sem.run_bind,under_run hu,Result.andThen_ok,asInt,asIntOf,Sem.run_pure,typeInfo,run_program,hi,hw1,hw2]
   have c1:(decide (m<0)||decide ((i.bytes:Int)*m > 2^48))=false:=by
    rw[hcm];simp only[Bool.or_eq_false_iff,decide_eq_false_iff_not];omega
   simp only[c1,show ¬n<0 from by omega,show ¬n > m from by omega,decide_false,Bool.or_false,zE,if_false,run_askRoom,Result.andThen_ok]
   have hsz:szOf P e=some i.size:=by simp[szOf,hi]
   simp only[Sem.run_bind,run_askRoom,szOf_run hsz,Result.andThen_ok]
   by_cases hm0:m.toNat*i.size=0
   ·have h0r:∀f:Nat->Value,(Array.range 0).map f=#[]:=fun f=>by apply Array.ext';simp
    simp[hm0,newRow,h0r]
   ·simp[hm0,hrun,newRow]
 ·exact hp.elim
def AH.setKind(h:AH)(id:Nat)(k:Kind):AH:=h.upd id fun o=>{ o with kind:=k }
def eRange(str:Bool)(x:AV)(h:AH)(K:AV->AH->Prop):Prop:=
 match str,x with
 |true,.sc (.string s)=>K (.ptr h.next 0) (h.alloc { cells:=[],sz:=0,ty:=0,kind:=.iter s 0 })
 |_,_=>False
theorem eRange_ok{t:TypeId}{h:AH}{W:Nat->Prop}{w:World}{K:AV->AH->Prop}{x:AV}{v:Value}(hr:Rel E h w)(hx:VR E x v)(hp:eRange (isStr P t) x h K) :
  ES P E h W w (Instr.range t v) K:=by
 unfold eRange at hp
 split at hp
 ·rename_i s ht
  unfold isStr at ht
  split at ht
  ·rename_i hu
   cases hx
   refine⟨_,.pointer (some ⟨w.heap.size,0,none⟩),_,_,_,Step.allocO (o:={ cells:=[],sz:=0,ty:=0,kind:=.iter s 0 }) hr (.stringIter s 0) 0 0 (fun _ _ _ hw=>⟨rfl,hw⟩),?_,hp,?_⟩
   ·exact .ptr (B:=⟨w.heap.size,0,0,0⟩) (by simp[Env.put])
   ·simp[Instr.range,under_run hu]
  ·cases ht
 ·exact hp.elim
def eNext(x:AV)(h:AH)(W:Nat->Prop)(K:AV->AH->Prop):Prop:=
 match x with
 |.ptr id 0=>∃o s p,(W id/\h.obj id=some o/\o.kind=.iter s p/\o.ro=false) /\
   if p<s.size then K (.tup [.b true,.i p,.sc (.int .i32 (Utf8.decode s p).1)]) (h.setKind id (.iter s (p+(Utf8.decode s p).2))) else K (.tup [.b false]) h
 |_=>False
theorem Step.setIter{h:AH}{W:Nat->Prop}{w:World}(hr:Rel E h w){id:Nat}{B:Blk}{o:AO}{s:ByteArray}{p q:Nat}(hW:W id)(ho:h.obj id=some o)(hB:E id=some B)(hk:o.kind=.iter s p)(hro:o.ro=false) :
  Step E h W w E (h.setKind id (.iter s q)) { w with heap:=w.heap.setIfInBounds B.b (.stringIter s q) }:=by
 have hlt:B.b<w.heap.size:=by
  obtain⟨B',hB',hO⟩:=hr.obj id o ho
  rw[hB]at hB';cases hB'
  exact hO.lt
 have hB0:B.o=0:=by
  obtain⟨B',hB',hO⟩:=hr.obj id o ho
  rw[hB]at hB';cases hB'
  unfold OR at hO;rw[hk]at hO;exact hO.1
 have hobj:∀i,(h.setKind id (.iter s q)).obj i=if i=id then(h.obj i).map (fun o=>{ o with kind:=.iter s q }) else h.obj i:=fun _=>rfl
 have hoth:∀k,k≠B.b->(w.heap.setIfInBounds B.b (.stringIter s q))[k]?=w.heap[k]?:=fun k hk=>Array.getElem?_setIfInBounds_ne (fun e=>hk e.symm)
 refine⟨fun _ _ h=>h,⟨?_,?_,hr.fresh⟩,zU _,?_,?_,rfl,rfl,rfl,by simp,?_,?_,?_⟩
 ·intro i o' ho'
  rw[hobj]at ho'
  by_cases e:i=id
  ·subst e
   rw[zX rfl,ho]at ho'
   cases ho'
   exact⟨B,hB,by unfold OR;exact⟨hB0,by simp[hlt]⟩⟩
  ·rw[zW e]at ho'
   obtain⟨B',hB',hO⟩:=hr.obj i o' ho'
   exact⟨B',hB',hO.mono (fun _ _ h=>h) (hoth _ fun hbb=>(hr.inj i id o' o B' B ho' ho hB' hB hbb).elim e (fun hh=>by rw[hro]at hh;cases hh.2))⟩
 ·intro i j oi oj Bi Bj h1 h2
  rw[hobj]at h1 h2
  have some':∀i oi,(if i=id then(h.obj i).map (fun o=>({ o with kind:=.iter s q }:AO)) else h.obj i)=some oi->∃o',h.obj i=some o'/\o'.ro=oi.ro:=by
   intro i oi hi
   split at hi
   ·cases ho:h.obj i with
    |none=>rw[ho]at hi;cases hi
    |some o'=>rw[ho]at hi;simp only[yB,zQ]at hi;subst hi;exact⟨o',rfl,rfl⟩
   ·exact⟨oi,hi,rfl⟩
  obtain⟨a,ha,ra⟩:=some' i oi h1
  obtain⟨b,hb,rb⟩:=some' j oj h2
  rw[<-ra,<-rb]
  exact hr.inj i j a b Bi Bj ha hb
 ·intro i _ hm
  rw[hobj,zW (fun(e:i=id)=>hm (e ▸ hW))]
 ·intro i _ h0
  rw[hobj,h0];simp
 ·intro b _ hno
  exact hoth _ (fun hbb=>hno id B o hW ho hro hB hbb.symm)
 ·intro i C oi hi _ _ hge
  rw[hobj]at hi
  have:h.obj i≠none:=fun h0=>by rw[h0]at hi;simp at hi
  have:=AH.lt' this
  omega
 ·intro i o1 o2 h1' h2' h3'
  rw[hobj]at h2'
  split at h2'
  ·rw[h1']at h2';simp only[yB,zQ]at h2';subst h2';exact h3'
  ·rw[h1']at h2';cases h2';exact h3'
theorem eNext_ok{t:TypeId}{h:AH}{W:Nat->Prop}{w:World}{K:AV->AH->Prop}{x:AV}{v:Value}(hr:Rel E h w)(hx:VR E x v)(hp:eNext x h W K) :
  ES P E h W w (Instr.next v true t) K:=by
 unfold eNext at hp
 split at hp
 ·rename_i id
  obtain⟨o,s,p,⟨hW,ho,hk,hro⟩,hp⟩:=hp
  cases hx with
  |ptr hB=>
   rename_i B
   obtain⟨B',hB',hO⟩:=hr.obj id o ho
   rw[hB]at hB';cases hB'
   have hw:w.heap[B.b]?=some (.stringIter s p):=by unfold OR at hO;rw[hk]at hO;exact hO.2
   have hB0:B.o=0:=by unfold OR at hO;rw[hk]at hO;exact hO.1
   rw[hB0]
   have hget:(getObj B.b).run P w=.ok (.stringIter s p) w:=by simp[getObj,Sem.run,hw]
   split at hp
   ·rename_i hlt
    refine⟨_,.tuple #[.bool true,goInt p,.int .i32 (Utf8.decode s p).1],E,_,_,Step.setIter (q:=p+(Utf8.decode s p).2) hr hW ho hB hk hro,?_,hp,?_⟩
    ·exact .tup (vs:=[.bool true,goInt p,.int .i32 (Utf8.decode s p).1]) (.cons (.sc _) (.cons (.sc _) (.cons (.sc _) .nil)))
    ·simp only[Instr.next,Sem.run_bind,hget,Result.andThen_ok,zX hlt]
     simp[setObj,Sem.run,hw]
   ·rename_i hlt
    refine⟨_,.tuple #[.bool false],E,h,w,Step.refl hr,.tup (vs:=[.bool false]) (.cons (.sc _) .nil),hp,?_⟩
    simp only[Instr.next,Sem.run_bind,hget,Result.andThen_ok,zW hlt,Sem.run_pure]
 ·exact hp.elim
end
section
variable {P:Program} {E:Env}
def keyCmp(P:Program)(kt:TypeId)(a b:AV):Option Bool:=
 match a,b with
 |.sc (.string x),.sc (.string y)=>if isStr P kt=true then some (decide (x=y)) else none
 |.sc (.int k x),.sc (.int k' y)=>if (intOfT P kt).isSome=true/\k=k' then some (x==y) else none
 |.agg xs,.agg ys=>(flatEq P kt).bind fun ks=>if xs.length=ks.length/\ys.length=ks.length then aggEq ks xs ys else none
 |_,_=>none
def mFind(P:Program)(kt:TypeId)(k:AV):List (AV×AV)->Nat->Option (Option (Nat×AV))
 |[],_=>some none
 |(k',v)::l,i=>
  match keyCmp P kt k k' with
  |some true=>some (some (i,v))
  |some false=>mFind P kt k l (i+1)
  |none=>none
def keyOk(P:Program)(kt:TypeId)(k:AV):Bool:=(keyCmp P kt k k).isSome
theorem s_beq(a b:ByteArray):(a==b)=decide (a=b):=by rw[beq_toListBytes,str_eq]
theorem isStr_u{t:TypeId}(h:isStr P t=true):P.underlying t=some .string:=by
 unfold isStr at h;split at h<;>simp_all
theorem intOf_u{t:TypeId}(h:(intOfT P t).isSome=true):∃k,P.underlying t=some (.int k):=by
 unfold intOfT at h;split at h<;>simp_all
theorem flat_u{t:TypeId}{ks:List Bool}(h:flatEq P t=some ks):∃fs,P.underlying t=some (.struct fs)/\fldEq P 0 fs.toList=some ks/\P.stoodInHeld t=false:=by
 unfold flatEq at h
 split at h
 ·rename_i hg
  split at h
  ·rename_i fs hu;exact⟨fs,hu,h,hg.2⟩
  ·cases h
 ·cases h
theorem keyCmp_run{kt:TypeId}{a b:AV}{v u:Value}{r:Bool}(w:World)(hx:VR E a v)(hy:VR E b u)(h:keyCmp P kt a b=some r):(Op.equal kt v u).run P w=.ok r w:=by
 unfold keyCmp at h
 split at h
 ·split at h
  ·rename_i hs
   cases hx;cases hy;cases h
   show(Op.equalIn 10000 kt _ _).run P w=_
   rw[run_equalIn_string w 9999 kt _ _ (isStr_u hs),str_eq]
  ·cases h
 ·split at h
  ·rename_i hs
   obtain⟨hi,rfl⟩:=hs
   cases hx;cases hy;cases h
   obtain⟨k,hk⟩:=intOf_u hi
   show(Op.equalIn 10000 kt _ _).run P w=_
   rw[run_equalIn_int w 9999 kt _ k _ _ hk]
  ·cases h
 ·rename_i xs ys
  cases hf:flatEq P kt with
  |none=>rw[hf]at h;cases h
  |some ks=>
   rw[hf]at h
   simp only[Option.bind_some]at h
   split at h
   ·obtain⟨fs,hu,hfl,hst⟩:=flat_u hf
    cases hx with |agg hx=>cases hy with |agg hy=>
    have hfo:P.fieldsOf kt=fs:=by unfold Program.fieldsOf;rw[hu]
    show(Op.equalIn 10000 kt _ _).run P w=_
    rw[run_equalIn_struct w 9999 kt _ _ (by rw[hfo];exact hu) hst,hfo]
    exact aggEq_run w _ 0 ks xs ys _ _ _ _ r hfl h hx hy (fun i=>by simp) (fun i=>by simp)
   ·cases h
 ·cases h
theorem aggEq_true:∀{ks:List Bool}{xs ys:List AV}{vs us:List Value},xs.length=ks.length->ys.length=ks.length->aggEq ks xs ys=some true->VRs E xs vs->VRs E ys us->vs=us
 |[],xs,ys,vs,us,hx,hy,_,h1,h2=>by
  have e1:xs=[]:=List.length_eq_zero_iff.1 hx
  have e2:ys=[]:=List.length_eq_zero_iff.1 hy
  subst e1;subst e2;cases h1;cases h2;rfl
 |b::ks,xs,ys,vs,us,hx,hy,h,h1,h2=>by
  unfold aggEq at h
  split at h
  ·rename_i hh;cases hh
  ·rename_i hh;cases hh
   cases h1 with |cons a1 r1=>cases h2 with |cons a2 r2=>
   cases a1;cases a2
   cases hq:aggEq ks _ _ with
   |none=>rw[hq]at h;cases h
   |some q=>
    rw[hq]at h
    simp only[yB,zQ,yC,decide_eq_true_eq]at h
    obtain⟨e,rfl⟩:=h
    rw[e,aggEq_true (by simpa using hx) (by simpa using hy) hq r1 r2]
  ·rename_i hh;cases hh
   split at h
   ·rename_i hk
    subst hk
    cases h1 with |cons a1 r1=>cases h2 with |cons a2 r2=>
    cases a1;cases a2
    cases hq:aggEq ks _ _ with
    |none=>rw[hq]at h;cases h
    |some q=>
     rw[hq]at h
     simp only[yB,zQ,yC,beq_iff_eq]at h
     obtain⟨e,rfl⟩:=h
     rw[e,aggEq_true (by simpa using hx) (by simpa using hy) hq r1 r2]
   ·cases h
  ·cases h
theorem aggEq_bits:∀{ks:List Bool}{xs ys:List AV}{vs us:List Value}{b:Bool},xs.length=ks.length->aggEq ks xs ys=some b->VRs E xs vs->(vs.zip vs).all (fun(x,y)=>Instr.sameBits 9999 x y)=true
 |[],xs,ys,vs,us,b,hx,_,h1=>by
  have e1:xs=[]:=List.length_eq_zero_iff.1 hx
  subst e1;cases h1;rfl
 |c::ks,xs,ys,vs,us,b,hx,h,h1=>by
  unfold aggEq at h
  split at h
  ·rename_i hh;cases hh
  ·rename_i hh;cases hh
   cases h1 with |cons a1 r1=>
   cases a1
   cases hq:aggEq ks _ _ with
   |none=>rw[hq]at h;cases h
   |some q=>
    have:=aggEq_bits (us:=us) (by simpa using hx) hq r1
    simp only[List.zip_cons_cons,List.all_cons,this,Bool.and_true]
    simp[Instr.sameBits,s_beq]
  ·rename_i hh;cases hh
   split at h
   ·cases h1 with |cons a1 r1=>
    cases a1
    cases hq:aggEq ks _ _ with
    |none=>rw[hq]at h;cases h
    |some q=>
     have:=aggEq_bits (us:=us) (by simpa using hx) hq r1
     simp only[List.zip_cons_cons,List.all_cons,this,Bool.and_true]
     simp[Instr.sameBits]
   ·cases h
  ·cases h
theorem keyCmp_true{kt:TypeId}{a b:AV}{v u:Value}(hx:VR E a v)(hy:VR E b u)(h:keyCmp P kt a b=some true):v=u/\Instr.sameBits 10000 u v=true:=by
 unfold keyCmp at h
 split at h
 ·split at h
  ·cases hx;cases hy
   simp only[zQ,decide_eq_true_eq]at h
   subst h
   exact⟨rfl,by simp[Instr.sameBits,s_beq]⟩
  ·cases h
 ·split at h
  ·rename_i hs
   obtain⟨_,rfl⟩:=hs
   cases hx;cases hy
   simp only[zQ,beq_iff_eq]at h
   subst h
   exact⟨rfl,by simp[Instr.sameBits]⟩
  ·cases h
 ·cases hf:flatEq P kt with
  |none=>rw[hf]at h;cases h
  |some ks=>
   rw[hf]at h
   simp only[Option.bind_some]at h
   split at h
   ·rename_i hl
    cases hx with |agg hx=>cases hy with |agg hy=>
    have e:=aggEq_true hl.1 hl.2 h hx hy
    subst e
    have:=aggEq_bits (us:=[]) hl.1 h hx
    refine⟨rfl,?_⟩
    simp only[Instr.sameBits,this,beq_self_eq_true,Bool.and_self]
   ·cases h
 ·cases h
theorem sameNow_agree{kt:TypeId}{kind:TypeDesc}{a b:AV}{v u:Value}{r:Bool}(hu:P.underlying kt=some kind)(hx:VR E a v)(hy:VR E b u)(h:keyCmp P kt a b=some r):Instr.sameNow kind v u=some r\/Instr.sameNow kind v u=none:=by
 unfold keyCmp at h
 split at h
 ·split at h
  ·rename_i hs
   rw[isStr_u hs]at hu;cases hu
   cases hx;cases hy;cases h
   left;simp[Instr.sameNow,s_beq]
  ·cases h
 ·split at h
  ·rename_i hs
   obtain⟨hi,rfl⟩:=hs
   obtain⟨k,hk⟩:=intOf_u hi
   rw[hk]at hu;cases hu
   cases hx;cases hy;cases h
   left;simp[Instr.sameNow]
  ·cases h
 ·cases hx with |agg hx=>
  right
  cases hf:flatEq P kt with
  |none=>rw[hf]at h;cases h
  |some ks=>
   obtain⟨fs,hu',_⟩:=flat_u hf
   rw[hu']at hu;cases hu
   simp[Instr.sameNow]
 ·cases h
def FRel(E:Env)(kv:Value)(es:List MapEntry)(i0:Nat):Option (Nat×AV)->Option (Nat×Value)->Prop
 |none,none=>True
 |some (i,a),some (j,u)=>i=j/\VR E a u/\i0<=i/\∃e,es[i-i0]?=some e/\e.val=u/\e.key=kv/\Instr.sameBits 10000 e.key kv=true
 |_,_=>False
theorem FRel.cons{kv:Value}{e:MapEntry}{es:List MapEntry}{i:Nat}{r:Option (Nat×AV)}{q:Option (Nat×Value)}(h:FRel E kv es (i+1) r q):FRel E kv (e::es) i r q:=by
 unfold FRel at *
 split at h
 ·trivial
 ·obtain⟨h1,h2,h3,e',h4,h5⟩:=h
  refine⟨h1,h2,by omega,e',?_,h5⟩
  rename_i j _ _ _
  rw[show j-i=(j-(i+1))+1 by omega,zB];exact h4
 ·exact h.elim
theorem FRel.here{kv:Value}{e:MapEntry}{es:List MapEntry}{i:Nat}{a:AV}(h1:VR E a e.val)(h2:e.key=kv)(h3:Instr.sameBits 10000 e.key kv=true):FRel E kv (e::es) i (some (i,a)) (some (i,e.val)):=
 ⟨rfl,h1,zU _,e,by simp,rfl,h2,h3⟩
theorem findAsking_run{kt:TypeId}{k:AV}{kv:Value}(hk:VR E k kv):∀{l:List (AV×AV)}{es:List MapEntry}{i:Nat}{r:Option (Nat×AV)},MR E l es->mFind P kt k l i=some r->∃q,FRel E kv es i r q/\∀w,(Instr.findAsking kt kv es i).run P w=.ok q w
 |_,_,i,r,.nil,h=>by
  simp only[mFind,zQ]at h
  subst h
  exact⟨none,trivial,by simp[Instr.findAsking]⟩
 |_,_,i,r,.cons (k:=k') (e:=e) h1 h2 h3,h=>by
  simp only[mFind]at h
  cases hc:keyCmp P kt k k' with
  |none=>rw[hc]at h;cases h
  |some b=>
   rw[hc]at h
   have hr:=fun w=>keyCmp_run w hk h1 hc
   cases b with
   |true=>
    simp only[zQ]at h
    subst h
    obtain⟨e1,e2⟩:=keyCmp_true hk h1 hc
    refine⟨some (i,e.val),FRel.here h2 e1.symm e2,fun w=>?_⟩
    simp only[Instr.findAsking,Sem.run_bind,hr,Result.andThen_ok,zV,Sem.run_pure]
   |false=>
    obtain⟨q,q1,q2⟩:=findAsking_run hk h3 h
    refine⟨q,q1.cons,fun w=>?_⟩
    simp only[Instr.findAsking,Sem.run_bind,hr,Result.andThen_ok,zE,if_false,q2]
theorem findNow_agree{kt:TypeId}{kind:TypeDesc}{k:AV}{kv:Value}(hu:P.underlying kt=some kind)(hk:VR E k kv):∀{l:List (AV×AV)}{es:List MapEntry}{i:Nat}{r:Option (Nat×AV)},MR E l es->mFind P kt k l i=some r->Instr.findNow kind kv es i=none\/∃q,FRel E kv es i r q/\Instr.findNow kind kv es i=some q
 |_,_,i,r,.nil,h=>by
  simp only[mFind,zQ]at h
  subst h
  exact .inr ⟨none,trivial,by simp[Instr.findNow]⟩
 |_,_,i,r,.cons (k:=k') (e:=e) h1 h2 h3,h=>by
  simp only[mFind]at h
  cases hc:keyCmp P kt k k' with
  |none=>rw[hc]at h;cases h
  |some b=>
   rw[hc]at h
   rcases sameNow_agree hu hk h1 hc with hs |hs
   ·cases b with
    |true=>
     simp only[zQ]at h
     subst h
     obtain⟨e1,e2⟩:=keyCmp_true hk h1 hc
     exact .inr ⟨some (i,e.val),FRel.here h2 e1.symm e2,by simp[Instr.findNow,hs]⟩
    |false=>
     rcases findNow_agree hu hk h3 h with hn |⟨q,q1,q2⟩
     ·exact .inl (by simp[Instr.findNow,hs,hn])
     ·exact .inr ⟨q,q1.cons,by simp[Instr.findNow,hs,q2]⟩
   ·exact .inl (by simp[Instr.findNow,hs])
theorem keyOk_u{kt:TypeId}{k:AV}(h:keyOk P kt k=true):∃kind,P.underlying kt=some kind:=by
 unfold keyOk keyCmp at h
 split at h
 ·split at h
  ·rename_i hs;exact⟨_,isStr_u hs⟩
  ·cases h
 ·split at h
  ·rename_i hs;obtain⟨k,hk⟩:=intOf_u hs.1;exact⟨_,hk⟩
  ·cases h
 ·cases hf:flatEq P kt with
  |none=>rw[hf]at h;cases h
  |some ks=>obtain⟨fs,hu,_⟩:=flat_u hf;exact⟨_,hu⟩
 ·cases h
theorem findKey_run{kt:TypeId}{k:AV}{kv:Value}{l:List (AV×AV)}{es:List MapEntry}{r:Option (Nat×AV)}(ho:keyOk P kt k=true)(hk:VR E k kv)(hm:MR E l es)(h:mFind P kt k l 0=some r):∃q,FRel E kv es 0 r q/\∀w,(Instr.findKey kt kv es).run P w=.ok q w:=by
 obtain⟨kind,hu⟩:=keyOk_u ho
 rcases findNow_agree hu hk hm h with hn |⟨q,q1,q2⟩
 ·obtain⟨q,q1,q2⟩:=findAsking_run hk hm h
  refine⟨q,q1,fun w=>?_⟩
  simp only[Instr.findKey,Sem.run_bind,under_run hu,Result.andThen_ok,hn,q2]
 ·refine⟨q,q1,fun w=>?_⟩
  simp only[Instr.findKey,Sem.run_bind,under_run hu,Result.andThen_ok,q2,Sem.run_pure]
theorem checkFields(b:Bool)(d:Nat)(w:World)(A:Array Value):∀(fs:List Field)(o:Nat)(ks:List Bool)(xs ys:List AV)(vs:List Value)(r:Bool),fldEq P o fs=some ks->aggEq ks xs ys=some r->VRs E xs vs->(∀i,A[o+i]?=vs[i]?) ->
  ∀ f ∈ fs, f.name ≠ "_" ∧ ∃ v, (part f.type A f.offset).run P w = .ok v w ∧ (Instr.checkKey b (d + 1) f.type v).run P w = .ok () w
 |[],_,_,_,_,_,_,_,_,_,_=>fun f hf=>by cases hf
 |f::fs,o,ks,xs,ys,vs,r,hf,he,hx,hA=>by
  simp only[fldEq]at hf
  split at hf
  ·rename_i hn
   obtain⟨hn,ho⟩:=hn
   have hA':∀i,A[o+1+i]?=vs.tail[i]?:=fun i=>by rw[show o+1+i=o+(i+1) by omega,hA];cases vs<;>simp
   have a0:=hA 0
   rw[Nat.add_zero]at a0
   have part':∀(v:Value)(g:TypeDesc),P.underlying f.type=some g->(match g with |.struct _=>false |.array _ _=>false |_=>true)=true->A[o]?=some v->(part f.type A f.offset).run P w=.ok v w:=by
    intro v g hg hs hc
    rw[ho]
    simp only[part,isAgg,Sem.run_bind,under_run hg,Result.andThen_ok]
    cases g<;>simp[hc]at hs ⊢
   split at hf
   ·rename_i hu
    cases hf':fldEq P (o+1) fs with
    |none=>rw[hf']at hf;cases hf
    |some ks'=>
     rw[hf']at hf
     simp only[yB,zQ]at hf
     subst hf
     unfold aggEq at he
     split at he
     ·rename_i h;cases h
     ·rename_i h
      cases h
      cases hx with |cons h1 hx'=>
      cases h1
      cases hq:aggEq ks' _ _ with
      |none=>rw[hq]at he;cases he
      |some q=>
       have ih:=checkFields b d w A fs (o+1) ks' _ _ _ q hf' hq hx' hA'
       intro g hg
       rcases List.mem_cons.1 hg with hg |hg
       ·subst hg
        refine⟨hn,_,part' _ _ hu rfl (by rw[a0];rfl),?_⟩
        rw[Instr.checkKey];simp[under_run hu]
       ·exact ih g hg
     ·rename_i h;cases h
     ·cases he
   ·rename_i kk hu
    cases hf':fldEq P (o+1) fs with
    |none=>rw[hf']at hf;cases hf
    |some ks'=>
     rw[hf']at hf
     simp only[yB,zQ]at hf
     subst hf
     unfold aggEq at he
     split at he
     ·rename_i h;cases h
     ·rename_i h;cases h
     ·rename_i h
      cases h
      split at he
      ·cases hx with |cons h1 hx'=>
       cases h1
       cases hq:aggEq ks' _ _ with
       |none=>rw[hq]at he;cases he
       |some q=>
        have ih:=checkFields b d w A fs (o+1) ks' _ _ _ q hf' hq hx' hA'
        intro g hg
        rcases List.mem_cons.1 hg with hg |hg
        ·subst hg
         refine⟨hn,_,part' _ _ hu rfl (by rw[a0];rfl),?_⟩
         rw[Instr.checkKey];simp[under_run hu]
        ·exact ih g hg
      ·cases he
     ·cases he
   ·cases hf
  ·cases hf
theorem checkKey_run{kt:TypeId}{k:AV}{kv:Value}(b:Bool)(w:World)(ho:keyOk P kt k=true)(hk:VR E k kv):(Instr.checkKey b 10000 kt kv).run P w=.ok () w:=by
 rw[show(10000:Nat)=9998+1+1 from rfl]
 unfold keyOk keyCmp at ho
 split at ho
 ·split at ho
  ·rename_i hs
   cases hk
   rw[Instr.checkKey]
   simp[under_run (isStr_u hs)]
  ·cases ho
 ·split at ho
  ·rename_i hs
   obtain⟨kk,hkk⟩:=intOf_u hs.1
   cases hk
   rw[Instr.checkKey]
   simp[under_run hkk]
  ·cases ho
 ·cases hf:flatEq P kt with
  |none=>rw[hf]at ho;cases ho
  |some ks=>
   rw[hf]at ho
   simp only[Option.bind_some]at ho
   split at ho
   ·obtain⟨fs,hu,hfl,_⟩:=flat_u hf
    obtain⟨r,hr⟩:=Option.isSome_iff_exists.1 ho
    cases hk with
    | @agg l vs hk=>
    have key:=checkFields b 9998 w vs.toArray fs.toList 0 ks _ _ vs r hfl hr hk (fun i=>by simp)
    rw[Instr.checkKey]
    simp only[Sem.run_bind,under_run hu,Result.andThen_ok]
    rw[<-Array.forIn_toList]
    generalize fs.toList=L at key
    clear hfl hu hr hf
    induction L with
    |nil=>simp
    |cons f L ih=>
     obtain⟨hn,v,p1,p2⟩:=key f (by simp)
     simp only[List.forIn_cons,Sem.run_bind,hn,ne_eq,not_false_eq_true,zV,Result.andThen_ok,p1,p2,Sem.run_pure]
     exact ih (fun y hy=>key y (by simp[hy]))
   ·cases ho
 ·cases ho
def mapOf(P:Program)(t:TypeId):Option (TypeId×TypeId):=match P.underlying t with |some (.map k e)=>some (k,e) |_=>none
theorem mapOf_u{t k e:TypeId}(h:mapOf P t=some (k,e)):P.underlying t=some (.map k e):=by
 unfold mapOf at h;split at h<;>simp_all
def zeroAV(P:Program)(t:TypeId):Option AV:=(P.info? t).bind fun i=>i.zero.map lift
theorem zeroAV_run{t:TypeId}{z:AV}(h:zeroAV P t=some z):∃v,(∀w,(zeroValue t).run P w=.ok v w)/\∀E,VR E z v:=by
 unfold zeroAV at h
 cases hi:P.info? t with
 |none=>rw[hi]at h;cases h
 |some i=>
  rw[hi]at h
  simp only[Option.bind_some]at h
  cases hz:i.zero with
  |none=>rw[hz]at h;cases h
  |some v=>
   rw[hz]at h
   simp only[yB,zQ]at h
   subst h
   refine⟨v,fun w=>?_,fun E=>VR.lift E v⟩
   have:(typeInfo t).run P w=.ok i w:=by simp[typeInfo,Sem.run,hi]
   simp only[zeroValue,Sem.run_bind,this,Result.andThen_ok,hz,Sem.run_pure]
def mRead(P:Program)(d:TypeId×TypeId)(l:List (AV×AV))(k:AV)(ok:Bool)(K:AV->Prop):Prop:=
 keyOk P d.1 k=true/\∃r z,mFind P d.1 k l 0=some r/\zeroAV P d.2=some z /\
  match r with
  |some (_,v)=>K (if ok then .tup [v,.b true] else v)
  |none=>K (if ok then .tup [z,.b false] else z)
def lLook(P:Program)(d:Option (TypeId×TypeId))(x k:AV)(ok:Bool)(h:AH)(K:AV->Option Nat->Prop):Prop:=
 match d,x with
 |some d,.mp id=>∃o l,(h.obj id=some o/\o.kind=.map l)/\mRead P d l k ok (K · (some id))
 |some d,.sc (.map none)=>mRead P d [] k ok (K · none)
 |_,_=>False
theorem VRs.pair{a b:AV}{v u:Value}(h1:VR E a v)(h2:VR E b u):VR E (.tup [a,b]) (.tuple #[v,u]):=.tup (vs:=[v,u]) (.cons h1 (.cons h2 .nil))
theorem lookup_ok{t k0 e0:TypeId}{k:AV}{xv kv:Value}{ok:Bool}{l:List (AV×AV)}{es:Array MapEntry}{K:AV->Prop}(hu:P.underlying t=some (.map k0 e0))(hk:VR E k kv)(hm:MR E l es.toList)(h:mRead P (k0,e0) l k ok K) :
  ∃av u,VR E av u/\K av/\∀w,(match xv with |.map none=>es=#[] |.map (some r)=>∃c,w.heap[r]?=some (.map es c) |_=>False)->(Instr.lookup t xv kv ok).run P w=.ok u w:=by
 obtain⟨h1,r,z,h2,h3,h4⟩:=h
 obtain⟨zv,hz,hzv⟩:=zeroAV_run h3
 obtain⟨q,q1,q2⟩:=findKey_run h1 hk hm h2
 have hg:∀(w:World)(r:Nat)(c:Nat),w.heap[r]?=some (.map es c)->(getObj r).run P w=.ok (.map es c) w:=fun w r c hc=>by simp[getObj,Sem.run,hc]
 cases r with
 |none=>
  cases q with
  |some _=>exact q1.elim
  |none=>
   refine⟨_,(if ok then Value.tuple #[zv,.bool false] else zv),?_,h4,fun w hw=>?_⟩
   ·cases ok
    ·exact hzv E
    ·exact VRs.pair (hzv E) (.sc _)
   split at hw
   ·subst hw
    simp only[Instr.lookup,Sem.run_bind,under_run hu,Result.andThen_ok,Sem.run_pure,checkKey_run _ w h1 hk,q2 w,hz w]
   ·obtain⟨c,hc⟩:=hw
    simp only[Instr.lookup,Sem.run_bind,under_run hu,Result.andThen_ok,Sem.run_pure,hg w _ c hc,checkKey_run _ w h1 hk,q2 w,hz w]
   ·exact hw.elim
 |some x=>
  obtain⟨i,v⟩:=x
  cases q with
  |none=>exact q1.elim
  |some y=>
   obtain⟨j,u⟩:=y
   obtain⟨_,hv,_⟩:=q1
   refine⟨_,(if ok then Value.tuple #[u,.bool true] else u),?_,h4,fun w hw=>?_⟩
   ·cases ok
    ·exact hv
    ·exact VRs.pair hv (.sc _)
   split at hw
   ·subst hw
    simp only[Instr.lookup,Sem.run_bind,under_run hu,Result.andThen_ok,Sem.run_pure,checkKey_run _ w h1 hk,q2 w]
   ·obtain⟨c,hc⟩:=hw
    simp only[Instr.lookup,Sem.run_bind,under_run hu,Result.andThen_ok,Sem.run_pure,hg w _ c hc,checkKey_run _ w h1 hk,q2 w]
   ·exact hw.elim
theorem lLook_ok{t:TypeId}{x k:AV}{xv kv:Value}{ok:Bool}{h:AH}{w:World}{K:AV->Option Nat->Prop}(hr:Rel E h w)(hx:VR E x xv)(hk:VR E k kv)(hp:lLook P (mapOf P t) x k ok h K) :
  ∃av u d,VR E av u/\K av d/\(∀id,d=some id->∃B,E id=some B)/\∀w',(∀id B,d=some id->E id=some B->w'.heap[B.b]?=w.heap[B.b]?)->(Instr.lookup t xv kv ok).run P w'=.ok u w':=by
 unfold lLook at hp
 split at hp
 ·rename_i d id hd
  obtain⟨o,l,⟨ho,hkd⟩,hp⟩:=hp
  obtain⟨k0,e0⟩:=d
  obtain⟨B,hB,hO⟩:=hr.obj id o ho
  unfold OR at hO
  rw[hkd]at hO
  obtain⟨_,es,c,hw,hm⟩:=hO
  cases hx with |mp hB'=>
  rw[hB]at hB';cases hB'
  obtain⟨av,u,a1,a2,a3⟩:=lookup_ok (xv:=.map (some B.b)) (mapOf_u hd) hk hm hp
  exact⟨av,u,some id,a1,a2,fun i hi=>by cases hi;exact⟨B,hB⟩,fun w' hw'=>a3 w' ⟨c,by rw[hw' id B rfl hB];exact hw⟩⟩
 ·rename_i d hd
  obtain⟨k0,e0⟩:=d
  cases hx
  obtain⟨av,u,a1,a2,a3⟩:=lookup_ok (xv:=.map none) (es:=#[]) (mapOf_u hd) hk .nil hp
  exact⟨av,u,none,a1,a2,fun i hi=>by (cases hi),fun w' _=>a3 w' rfl⟩
 ·exact hp.elim
def eMkM(t:TypeId)(h:AH)(K:AV->AH->Prop):Prop:=K (.mp h.next) (h.alloc { cells:=[],sz:=0,ty:=t,kind:=.map [] })
theorem eMkM_ok{t:TypeId}{h:AH}{W:Nat->Prop}{w:World}{K:AV->AH->Prop}(hr:Rel E h w)(hp:eMkM t h K):ES P E h W w (Instr.makeMap t none) K:=by
 refine⟨_,.map (some w.heap.size),_,_,_,Step.allocO (o:={ cells:=[],sz:=0,ty:=t,kind:=.map [] }) hr (.map #[] 0) 0 0 (fun _ _ _ hw=>⟨rfl,#[],0,hw,.nil⟩),?_,hp,?_⟩
 ·exact .mp (B:=⟨w.heap.size,0,0,0⟩) (by simp[Env.put])
 ·simp[Instr.makeMap]
def mSet(l:List (AV×AV))(k v:AV):Option (Nat×AV)->List (AV×AV)
 |some (i,_)=>l.set i (k,v)
 |none=>l++[(k,v)]
def eMSet(P:Program)(d:Option (TypeId×TypeId))(x k v:AV)(h:AH)(W:Nat->Prop)(K:AH->Prop):Prop:=
 match d,x with
 |some d,.mp id=>∃o l r,(W id/\h.obj id=some o/\o.kind=.map l/\o.ro=false)/\keyOk P d.1 k=true/\mFind P d.1 k l 0=some r/\K (h.setKind id (.map (mSet l k v r)))
 |_,_=>False
theorem Step.setK{h:AH}{W:Nat->Prop}{w:World}(hr:Rel E h w){id:Nat}{B:Blk}{o:AO}{k':Kind}{ob:Go.Obj}(hW:W id)(ho:h.obj id=some o)(hB:E id=some B)(hro:o.ro=false)
  (hO:∀w',w'.heap[B.b]?=some ob->OR E { o with kind:=k' } B w') :
  Step E h W w E (h.setKind id k') { w with heap:=w.heap.setIfInBounds B.b ob }:=by
 have hlt:B.b<w.heap.size:=by
  obtain⟨B',hB',hO⟩:=hr.obj id o ho
  rw[hB]at hB';cases hB'
  exact hO.lt
 have hobj:∀i,(h.setKind id k').obj i=if i=id then(h.obj i).map (fun o=>{ o with kind:=k' }) else h.obj i:=fun _=>rfl
 have hoth:∀k,k≠B.b->(w.heap.setIfInBounds B.b ob)[k]?=w.heap[k]?:=fun k hk=>Array.getElem?_setIfInBounds_ne (fun e=>hk e.symm)
 refine⟨fun _ _ h=>h,⟨?_,?_,hr.fresh⟩,zU _,?_,?_,rfl,rfl,rfl,by simp,?_,?_,?_⟩
 ·intro i o' ho'
  rw[hobj]at ho'
  by_cases e:i=id
  ·subst e
   rw[zX rfl,ho]at ho'
   cases ho'
   exact⟨B,hB,hO _ (by simp[hlt])⟩
  ·rw[zW e]at ho'
   obtain⟨B',hB',hO⟩:=hr.obj i o' ho'
   exact⟨B',hB',hO.mono (fun _ _ h=>h) (hoth _ fun hbb=>(hr.inj i id o' o B' B ho' ho hB' hB hbb).elim e (fun hh=>by rw[hro]at hh;cases hh.2))⟩
 ·intro i j oi oj Bi Bj h1 h2
  rw[hobj]at h1 h2
  have some':∀i oi,(if i=id then(h.obj i).map (fun o=>({ o with kind:=k' }:AO)) else h.obj i)=some oi->∃o',h.obj i=some o'/\o'.ro=oi.ro:=by
   intro i oi hi
   split at hi
   ·cases ho:h.obj i with
    |none=>rw[ho]at hi;cases hi
    |some o'=>rw[ho]at hi;simp only[yB,zQ]at hi;subst hi;exact⟨o',rfl,rfl⟩
   ·exact⟨oi,hi,rfl⟩
  obtain⟨a,ha,ra⟩:=some' i oi h1
  obtain⟨b,hb,rb⟩:=some' j oj h2
  rw[<-ra,<-rb]
  exact hr.inj i j a b Bi Bj ha hb
 ·intro i _ hm
  rw[hobj,zW (fun(e:i=id)=>hm (e ▸ hW))]
 ·intro i _ h0
  rw[hobj,h0];simp
 ·intro b _ hno
  exact hoth _ (fun hbb=>hno id B o hW ho hro hB hbb.symm)
 ·intro i C oi hi _ _ hge
  rw[hobj]at hi
  have:h.obj i≠none:=fun h0=>by rw[h0]at hi;simp at hi
  have:=AH.lt' this
  omega
 ·intro i o1 o2 h1' h2' h3'
  rw[hobj]at h2'
  split at h2'
  ·rw[h1']at h2';simp only[yB,zQ]at h2';subst h2';exact h3'
  ·rw[h1']at h2';cases h2';exact h3'
theorem MR.push{k v:AV}{e:MapEntry}(h1:VR E k e.key)(h2:VR E v e.val):∀{l:List (AV×AV)}{es:List MapEntry},MR E l es->MR E (l++[(k,v)]) (es++[e])
 |_,_,.nil=>.cons h1 h2 .nil
 |_,_,.cons a b c=>.cons a b (MR.push h1 h2 c)
theorem MR.set{k v:AV}{kv u:Value}(h1:VR E k kv)(h2:VR E v u):∀{l:List (AV×AV)}{es:List MapEntry}{i:Nat},MR E l es->MR E (l.set i (k,v)) (es.modify i fun e=>{ e with key:=kv,val:=u })
 |_,_,_,.nil=>by simpa using MR.nil
 |_,_,0,.cons a b c=>by
  simp only[List.set_cons_zero,List.modify_zero_cons]
  exact .cons h1 h2 c
 |_,_,i+1,.cons a b c=>by
  simp only[List.set_cons_succ,List.modify_succ_cons]
  exact .cons a b (MR.set h1 h2 c)
theorem eMSet_ok{t:TypeId}{x k v:AV}{xv kv u:Value}{h:AH}{W:Nat->Prop}{w:World}{K:AH->Prop}(hr:Rel E h w)(hx:VR E x xv)(hk:VR E k kv)(hv:VR E v u)(hp:eMSet P (mapOf P t) x k v h W K) :
  ∃E' h' w',Step E h W w E' h' w'/\K h'/\(Instr.mapUpdate t xv kv u).run P w=.ok () w':=by
 unfold eMSet at hp
 split at hp
 ·rename_i d id hd
  obtain⟨o,l,r,⟨hW,ho,hkd,hro⟩,hko,hf,hp⟩:=hp
  obtain⟨k0,e0⟩:=d
  obtain⟨B,hB,hO⟩:=hr.obj id o ho
  unfold OR at hO
  rw[hkd]at hO
  obtain⟨hB0,es,c,hw,hm⟩:=hO
  cases hx with |mp hB'=>
  rw[hB]at hB';cases hB'
  obtain⟨q,q1,q2⟩:=findKey_run hko hk hm hf
  have hg:(getObj B.b).run P w=.ok (.map es c) w:=by simp[getObj,Sem.run,hw]
  have hs:∀ob,(setObj B.b ob).run P w=.ok () { w with heap:=w.heap.setIfInBounds B.b ob }:=fun ob=>by simp[setObj,Sem.run,hw]
  cases r with
  |none=>
   cases q with
   |some _=>exact q1.elim
   |none=>
    refine⟨E,_,_,Step.setK (k':=.map (l++[(k,v)])) (ob:=.map (es.push { key:=kv,val:=u,born:=c }) (c+1)) hr hW ho hB hro fun w' hw'=>⟨hB0,_,_,hw',?_⟩,hp,?_⟩
    ·show MR E (l++[(k,v)]) (es.push _).toList
     rw[Array.toList_push]
     exact hm.push hk hv
    ·simp only[Instr.mapUpdate,Sem.run_bind,under_run (mapOf_u hd),Result.andThen_ok,hg,checkKey_run _ w hko hk,q2 w,hs]
  |some y=>
   obtain⟨i,a⟩:=y
   cases q with
   |none=>exact q1.elim
   |some z=>
    obtain⟨j,b⟩:=z
    obtain⟨rfl,_,_,e,he,_,hek,hbits⟩:=q1
    rw[Nat.sub_zero]at he
    refine⟨E,_,_,Step.setK (k':=.map (l.set i (k,v))) (ob:=.map (es.modify i fun e=>{ e with key:=kv,val:=u }) c) hr hW ho hB hro fun w' hw'=>⟨hB0,_,_,hw',?_⟩,hp,?_⟩
    ·show MR E (l.set i (k,v)) (es.modify i _).toList
     rw[Array.toList_modify]
     exact hm.set hk hv
    ·have he':es[i]?=some e:=by rw[<-Array.getElem?_toList];exact he
     have hb:Instr.sameBits 10000 (((es[i]?).map (·.key)).getD kv) kv=true:=by rw[he'];exact hbits
     simp only[Instr.mapUpdate,Sem.run_bind,under_run (mapOf_u hd),Result.andThen_ok,hg,checkKey_run _ w hko hk,q2 w,Instr.keyThatStays,hb,zV,Sem.run_pure,hs]
 ·exact hp.elim
end
section
variable {P:Program} {E:Env}
def pBld(b:Option (List Value×(List (Nat×Nat) ⊕ Nat)))(parts:List (Nat×AV))(K:AV->Prop):Prop:=
 match b with
 |some (z,.inl pl)=>∃cells,aFill (fun i=>pl[i]?) (z.map .sc) parts=some cells/\K (.agg cells)
 |some (z,.inr n)=>∃cells,aFill (fun i=>some (i*n,n)) (z.map .sc) parts=some cells/\K (.agg cells)
 |none=>False
theorem mapM_some_run{α β:Type}{g:α->Sem β}{f:α->Option β}(hg:∀a b,f a=some b->∀w,(g a).run P w=.ok b w) :
  ∀(l:List α)(r:List β),l.mapM f=some r->∀w,(l.mapM g).run P w=.ok r w
 |[],r,h,w=>by simp only[List.mapM_nil]at h ⊢;cases h;rfl
 |a::l,r,h,w=>by
  simp only[List.mapM_cons]at h ⊢
  cases ha:f a with
  |none=>rw[ha]at h;cases h
  |some b=>
   cases hl:l.mapM f with
   |none=>rw[ha,hl]at h;cases h
   |some r'=>
    rw[ha,hl]at h
    cases h
    simp[hg a b ha,mapM_some_run hg l r' hl]
theorem pBld_ok{K:AV->Prop}{t:TypeId}{parts:List (Nat×AV)}{pv:Array (Nat×Value)}(hps:F2 (fun a b=>a.1=b.1/\VR E a.2 b.2) parts pv.toList)(hp:pBld (bldOf P t) parts K) :
  PS P E (Instr.build t pv) K:=by
 have zero':∀z,zeroOf P t=some z->∃v:Value,v.cells.toList=z/\VRs E (z.map .sc) v.cells.toList/\∀w,(zeroValue t).run P w=.ok v w:=by
  intro z hz
  obtain⟨v,hv,hrun⟩:=zeroOf_run hz
  exact⟨v,hv,by rw[hv];exact VRs.lift E z,hrun⟩
 unfold pBld at hp
 split at hp
 ·rename_i z pl hb
  obtain⟨cells,hf,hp⟩:=hp
  unfold bldOf at hb
  split at hb
  ·rename_i z' fs hz hu
   cases hm:fs.toList.mapM fun f=>(szOf P f.type).map fun n=>(f.offset,n) with
   |none=>rw[hm]at hb;cases hb
   |some l=>
    rw[hm]at hb
    simp only[yB,zQ,Prod.mk.injEq,Sum.inl.injEq]at hb
    obtain⟨rfl,rfl⟩:=hb
    obtain⟨v,hv,hvr,hrun⟩:=zero' _ hz
    obtain⟨arr',hfill,hvr'⟩:=fill_ok (place:=fun i:Nat=>l[i]?) parts pv.toList _ cells v.cells hps hvr hf
    refine⟨_,.agg arr',by simpa using VR.agg hvr',hp,fun w=>?_⟩
    have hmr:∀w,(fs.mapM fun f=>(do pure (f.offset,<-sizeOf f.type):Sem (Nat×Nat))).run P w=.ok l.toArray w:=by
     intro w
     rw[Array.mapM_eq_mapM_toList]
     have:=mapM_some_run (P:=P) (g:=fun f:Field=>(do pure (f.offset,<-sizeOf f.type):Sem (Nat×Nat))) (f:=fun f=>(szOf P f.type).map fun n=>(f.offset,n)) (by
      intro f b hfb w
      cases hs:szOf P f.type with
      |none=>rw[hs]at hfb;cases hfb
      |some n=>rw[hs]at hfb;cases hfb;simp[szOf_run hs]) fs.toList l hm w
     rw[Sem.run_map,this];rfl
    have hpl:(fun i:Nat=>l.toArray[i]?)=fun i:Nat=>l[i]?:=by funext i;simp
    simp only[Instr.build,Sem.run_bind,hrun,Result.andThen_ok,under_run hu,hmr,hpl,hfill,Sem.run_pure]
  ·cases hs:szOf P _<;>rw[hs]at hb<;>simp at hb
  ·cases hb
 ·rename_i z n hb
  obtain⟨cells,hf,hp⟩:=hp
  unfold bldOf at hb
  split at hb
  ·rename_i z' fs hz hu
   cases hm:fs.toList.mapM fun f=>(szOf P f.type).map fun n=>(f.offset,n)<;>rw[hm]at hb<;>simp at hb
  ·rename_i z' k e hz hu
   cases hs:szOf P e with
   |none=>rw[hs]at hb;cases hb
   |some n'=>
    rw[hs]at hb
    simp only[yB,zQ,Prod.mk.injEq,Sum.inr.injEq]at hb
    obtain⟨rfl,rfl⟩:=hb
    obtain⟨v,hv,hvr,hrun⟩:=zero' _ hz
    obtain⟨arr',hfill,hvr'⟩:=fill_ok (place:=fun i=>some (i*n',n')) parts pv.toList _ cells v.cells hps hvr hf
    refine⟨_,.agg arr',by simpa using VR.agg hvr',hp,fun w=>?_⟩
    simp only[Instr.build,Sem.run_bind,hrun,Result.andThen_ok,under_run hu,szOf_run hs,hfill,Sem.run_pure]
  ·cases hb
 ·exact hp.elim
structure ADef where
 f:Fn
 cap:List AV
 args:List AV
structure St where
 tm:Nat->AV
 ds:List ADef
def DR(E:Env)(d:ADef)(v:Deferred):Prop:=∃vs ws,v.target=.fn d.f (Array.mk vs)/\v.args=Array.mk ws/\VRs E d.cap vs/\VRs E d.args ws
inductive DRs (E:Env):List ADef->List Deferred->Prop
 |nil:DRs E [] []
 |cons {d:ADef} {v:Deferred} {l:List ADef} {m:List Deferred}:DR E d v->DRs E l m->DRs E (d::l) (v::m)
structure AR (E:Env) (N:Nat) (s:St) (a:Act):Prop where
 size:a.tmps.size=N
 tm:∀i,VR E (s.tm i) (a.tmps.getD i undef)
 ds:DRs E s.ds a.defers
theorem DRs.mono{E E':Env}(hE:E.le E'){l:List ADef}{m:List Deferred}(h:DRs E l m):DRs E' l m:=by
 induction h with
 |nil=>exact .nil
 |cons h _ ih=>
  obtain⟨vs,ws,a,b,c,d⟩:=h
  exact .cons ⟨vs,ws,a,b,c.mono hE,d.mono hE⟩ ih
theorem AR.mono{E E':Env}(hE:E.le E'){N:Nat}{s:St}{a:Act}(h:AR E N s a):AR E' N s a:=
 ⟨h.size,fun i=>(h.tm i).mono hE,h.ds.mono hE⟩
def upd(tm:Nat->AV)(d:Nat)(v:AV):Nat->AV:=fun i=>if i=d then v else tm i
def St.put(s:St)(N:Nat)(dst:Option Nat)(v:AV):St:=
 match dst with
 |none=>s
 |some d=>if d<N then{ s with tm:=upd s.tm d v } else s
theorem AR.put{N:Nat}{s:St}{a:Act}(h:AR E N s a)(dst:Option Nat){v:AV}{u:Value}(hv:VR E v u):AR E N (s.put N dst v) (a.put dst u):=by
 cases dst with
 |none=>exact h
 |some d=>
  simp only[St.put,Act.put]
  split
  ·rename_i hd
   refine⟨by simp[h.size],fun i=>?_,h.ds⟩
   simp only[upd]
   by_cases e:i=d
   ·subst e
    have hs:=h.size
    simp only[zV,Array.getD_eq_getD_getElem?,Array.getElem?_setIfInBounds,hs,hd,Option.getD_some]
    exact hv
   ·have:=h.tm i
    simp only[zW e]
    simpa[Array.getD_eq_getD_getElem?,Array.getElem?_setIfInBounds_ne (Ne.symm e)] using this
  ·rename_i hd
   have hs:=h.size
   refine⟨by simp[h.size],fun i=>?_,h.ds⟩
   have:a.tmps.setIfInBounds d u=a.tmps:=by
    unfold Array.setIfInBounds
    rw[dif_neg (by omega)]
   rw[this];exact h.tm i
def aev(s:St):Operand->AV
 |.tmp t=>s.tm t
 |.const v=>lift v
 |.global g=>.sc (.pointer (some ⟨g,0,none⟩))
 |.func f=>.fn (.func f) [] []
theorem AR.eval{N:Nat}{s:St}{a:Act}(h:AR E N s a)(x:Operand):VR E (aev s x) (a.eval x):=by
 cases x with
 |tmp t=>exact h.tm t
 |const v=>exact VR.lift E v
 |global g=>exact .sc _
 |func f=>exact .fn (vs:=[]) (ws:=[]) .nil .nil
theorem AR.evals{N:Nat}{s:St}{a:Act}(h:AR E N s a):∀l:List Operand,VRs E (l.map (aev s)) (l.map a.eval)
 |[]=>.nil
 |x::l=>.cons (h.eval x) (AR.evals h l)
theorem AR.parts{N:Nat}{s:St}{a:Act}(h:AR E N s a):∀l:List (Nat×Operand),
  F2 (fun a b=>a.1=b.1/\VR E a.2 b.2) (l.map fun x=>(x.1,aev s x.2)) (l.map fun x=>(x.1,a.eval x.2))
 |[]=>.nil
 |x::l=>.cons ⟨rfl,h.eval x.2⟩ (AR.parts h l)
def lenArg(c:Call):Option (Operand×TypeId):=
 match c.callee,c.args.toList,c.argTypes.toList with
 |.builtin .len,[x],[t]=>some (x,t)
 |_,_,_=>none
def mmArg(c:Call):Option (Bool×Operand×Operand):=
 match c.callee,c.args.toList with
 |.builtin .min,[x,y]=>some (true,x,y)
 |.builtin .max,[x,y]=>some (false,x,y)
 |_,_=>none
def isQ:Op->Bool
 |.move _ |.assign _ |.pick .. |.nilCheck _ |.fieldAddr .. |.indexAddr .. |.index .. |.field .. |.slice .. |.extract .. |.binOp .. |.unOp .. |.convert ..
 |.makeInterface .. |.makeFunc .. |.typeAssert .. |.build .. |.load .. |.lookup ..=>true
 |.call c=>(lenArg c).isSome||(mmArg c).isSome
 |_=>false
def strArg(x:AV):Bool:=match x with |.sc (.string _)=>true |_=>false
def cstO:Operand->Bool
 |.const _=>true
 |_=>false
def qOp(P:Program)(op:Op)(ρ:Operand->AV)(h:AH)(K:AV->Option Nat->Prop):Prop:=
 match op with
 |.move x |.assign x=>K (ρ x) none
 |.pick c a b=>pPick (ρ c) (ρ a) (ρ b) (K · none)
 |.nilCheck x=>pNil (ρ x) (K · none)
 |.fieldAddr s x f=>pFld (fOff P s f) (ρ x) (K · none)
 |.indexAddr t x i=>pIxA (ixOf P t) (ρ x) (ρ i) (K · none)
 |.index t x i=>pIxS (isStr P t) (ρ x) (ρ i) (K · none)
 |.field t x f=>pFdV (fSub P t f) (ρ x) (K · none)
 |.slice t x lo hi none=>match isStr P t with
  |true=>pSlS (ρ x) (lo.map ρ) (hi.map ρ) (K · none)
  |false=>pSlL (slOf P t) (ρ x) (lo.map ρ) (hi.map ρ) h (K · none)
 |.extract x k=>pExt (ρ x) k (K · none)
 |.binOp op t x y _=>pBin P op t (cstO x||cstO y) (ρ x) (ρ y) (K · none)
 |.unOp op _ x=>pUn op (ρ x) (K · none)
 |.convert s d x=>match b2sT P s d with
  |true=>pB2S (ρ x) h fun v id=>K v (some id)
  |false=>match (P.underlying s).isSome with
   |true=>pCnv (intOfT P d) (ρ x) (K · none)
   |false=>False
 |.makeInterface t x=>pMkI (isIfaceT P t) t (ρ x) (K · none)
 |.makeFunc fn first cap=>K (.fn fn (first.toList.map ρ) (cap.toList.map ρ)) none
 |.typeAssert x _ T ok=>pTA (isIfaceT P T) T ok (ρ x) (K · none)
 |.build t parts=>pBld (bldOf P t) (parts.toList.map fun x=>(x.1,ρ x.2)) (K · none)
 |.load t a=>lLd (aggOf P t) (szOf P t) (ρ a) h fun v id=>K v (some id)
 |.lookup t m x ok=>lLook P (mapOf P t) (ρ m) (ρ x) ok h K
 |.call c=>match lenArg c with
  |some (x,t)=>match isStr P t,isSliceT P t with
   |true,_=>strArg (ρ x)=true/\pLen (ρ x) (K · none)
   |false,true=>strArg (ρ x)=false/\pLen (ρ x) (K · none)
   |_,_=>False
  |none=>match mmArg c with
   |some (mn,x,y)=>pMM mn (ρ x) (ρ y) (K · none)
   |none=>False
 |_=>False
def QS(P:Program)(E:Env)(w:World)(s:Sem Next)(K:AV->Option Nat->Prop):Prop:=
 ∃av u d,VR E av u/\K av d/\(∀id,d=some id->∃B,E id=some B)/\∀w',(∀id B,d=some id->E id=some B->w'.heap[B.b]?=w.heap[B.b]?)->s.run P w'=.ok (.value u) w'
theorem QS.of_ps{w:World}{s:Sem Value}{K:AV->Option Nat->Prop}(h:PS P E s (K · none)):QS P E w (do pure (.value (<-s))) K:=by
 obtain⟨av,u,h1,h2,h3⟩:=h
 exact⟨av,u,none,h1,h2,by simp,fun w' _=>by simp[h3 w']⟩
theorem qOp_ok{N:Nat}{s:St}{a:Act}{h:AH}{w:World}{K:AV->Option Nat->Prop}(o:Oper)(hr:Rel E h w)(ha:AR E N s a)(hp:qOp P o.op (aev s) h K):QS P E w (execOp a.eval o) K:=by
 obtain⟨dst,op,ty,pos,after,guard⟩:=o
 simp only at hp
 have parts:∀ps:Array (Nat×Operand),F2 (fun a b=>a.1=b.1/\VR E a.2 b.2) (ps.toList.map fun x=>(x.1,aev s x.2)) (ps.map fun(i,x)=>(i,a.eval x)).toList:=by
  intro ps
  simpa using ha.parts ps.toList
 cases op<;>simp only[qOp]at hp<;>try exact hp.elim
 case move x=>exact⟨_,_,none,ha.eval x,hp,by simp,fun w' _=>by simp[execOp]⟩
 case assign x=>exact⟨_,_,none,ha.eval x,hp,by simp,fun w' _=>by simp[execOp]⟩
 case pick c x y=>
  obtain⟨av,u,h1,h2,h3⟩:=pPick_ok (P:=P) (ha.eval c) (ha.eval x) (ha.eval y) hp
  refine⟨av,u,none,h1,h2,by simp,fun w' _=>?_⟩
  have:=h3 w'
  simp only[execOp,Sem.run_bind]at this ⊢
  cases hb:(asBool (a.eval c)).run P w' with
  |ok t w''=>rw[hb]at this;simp only[Result.andThen_ok,Sem.run_pure]at this ⊢;injection this with e1 e2;rw[e1,e2]
  |halt _ _=>rw[hb]at this;cases this
 case nilCheck x=>
  have hx:=ha.eval x
  unfold pNil at hp
  split at hp
  ·rename_i i o he
   rw[he]at hx
   generalize hv:a.eval x=v at hx
   cases hx with
   |ptr hB=>exact⟨_,_,none,.ptr hB,hp,by simp,fun w' _=>by simp[execOp,hv]⟩
  ·rename_i f fs cs he
   rw[he]at hx
   generalize hv:a.eval x=v at hx
   cases hx with
   |fn h1 h2=>exact⟨_,_,none,.fn h1 h2,hp,by simp,fun w' _=>by simp[execOp,hv]⟩
  ·rename_i t v he
   rw[he]at hx
   generalize hv:a.eval x=v at hx
   cases hx with
   |ifc h1=>exact⟨_,_,none,.ifc h1,hp,by simp,fun w' _=>by simp[execOp,hv]⟩
  ·exact hp.elim
 case fieldAddr t x f=>exact QS.of_ps (pFld_ok (ha.eval x) hp)
 case indexAddr t x i=>exact QS.of_ps (pIxA_ok (ha.eval x) (ha.eval i) hp)
 case index t x i=>exact QS.of_ps (pIxS_ok (ha.eval x) (ha.eval i) hp)
 case field t x f=>exact QS.of_ps (pFdV_ok (ha.eval x) hp)
 case extract x k=>exact QS.of_ps (pExt_ok (ha.eval x) hp)
 case binOp op t x y yt=>exact QS.of_ps (pBin_ok (xo:=x) (yo:=y) (ha.eval x) (ha.eval y) (by cases x<;>cases y<;>simp[cstO]) hp)
 case unOp op t x=>exact QS.of_ps (pUn_ok (ha.eval x) hp)
 case makeInterface t x=>exact QS.of_ps (pMkI_ok (ha.eval x) hp)
 case typeAssert x xt T ok=>exact QS.of_ps (pTA_ok (ha.eval x) hp)
 case build t ps=>exact QS.of_ps (pBld_ok (parts ps) hp)
 case makeFunc fn first cap=>
  refine⟨_,.func fn (first.map a.eval) (cap.map a.eval),none,?_,hp,by simp,fun w' _=>by simp[execOp,Instr.makeFunc]⟩
  have h1:=VR.fn (f:=fn) (ha.evals first.toList) (ha.evals cap.toList)
  have e1:(List.map a.eval first.toList).toArray=first.map a.eval:=by apply Array.ext';simp
  have e2:(List.map a.eval cap.toList).toArray=cap.map a.eval:=by apply Array.ext';simp
  rw[e1,e2]at h1
  exact h1
 case convert t d x=>
  split at hp
  ·rename_i hb
   obtain⟨av,u,id,B,h1,h2,h3,h4⟩:=pB2S_ok hr (ha.eval x) hb hp
   refine⟨av,u,some id,h1,h2,fun id' he=>by cases he;exact⟨B,h3⟩,fun w' hw=>?_⟩
   have:=h4 w' (hw id B rfl h3)
   simp[execOp,this]
  ·split at hp
   ·rename_i hs
    exact QS.of_ps (pCnv_ok (ha.eval x) hs hp)
   ·exact hp.elim
 case slice t x lo hi mx=>
  have vo:∀y:Option Operand,VRo E (y.map (aev s)) (y.map a.eval):=by
   intro y
   cases y with
   |none=>exact trivial
   |some y=>exact ha.eval y
  cases mx with
  |some _=>exact hp.elim
  |none=>
   simp only at hp
   split at hp
   ·rename_i ht
    exact QS.of_ps (pSlS_ok (ha.eval x) (vo lo) (vo hi) ht hp)
   ·exact QS.of_ps (pSlL_ok hr (ha.eval x) (vo lo) (vo hi) hp)
 case load t x=>
  obtain⟨av,u,id,B,h1,h2,h3,h4⟩:=lLd_ok hr (ha.eval x) hp
  refine⟨av,u,some id,h1,h2,fun id' he=>by cases he;exact⟨B,h3⟩,fun w' hw=>?_⟩
  have:=h4 w' (hw id B rfl h3)
  simp[execOp,this]
 case lookup t m x ok=>
  obtain⟨av,u,d,h1,h2,h3,h4⟩:=lLook_ok hr (ha.eval m) (ha.eval x) hp
  exact⟨av,u,d,h1,h2,h3,fun w' hw=>by simp[execOp,h4 w' hw]⟩
 case call c=>
  split at hp
  ·rename_i x t hc
   have hc':c={ callee:=.builtin .len,args:=#[x],argTypes:=#[t] }:=by
    unfold lenArg at hc
    split at hc
    ·rename_i h1 h2 h3
     cases hc
     obtain⟨callee,args,argTypes⟩:=c
     simp only at h1 h2 h3
     subst h1
     congr 1
     ·exact Array.ext' h2
     ·exact Array.ext' h3
    ·cases hc
   subst hc'
   have fin:(isStr P t||isSliceT P t)=true->(isStr P t=true↔∃q,aev s x=.sc (.string q))->pLen (aev s x) (K · none)->QS P E w (execOp a.eval ⟨dst,.call { callee:=.builtin .len,args:=#[x],argTypes:=#[t] },ty,pos,after,guard⟩) K:=by
    intro h1 h2 h3
    obtain⟨av,u,h4,h5,h6⟩:=pLen_ok (P:=P) (ty:=ty) (ha.eval x) h1 h2 h3
    refine⟨av,u,none,h4,h5,by simp,fun w' _=>?_⟩
    have:=h6 w'
    simp[execOp,resolve,invoke,builtin,this]
   have sa:strArg (aev s x)=true↔∃q,aev s x=.sc (.string q):=by
    unfold strArg
    split
    ·rename_i q he;simp[he]
    ·rename_i hne;constructor
     ·intro h;cases h
     ·rintro⟨q,hq⟩;exact absurd hq (hne q)
   split at hp
   ·rename_i h1
    exact fin (by simp[h1]) (by rw[h1,<-sa,hp.1]) hp.2
   ·rename_i h1 h2
    exact fin (by simp[h1,h2]) (by rw[h1,<-sa,hp.1]) hp.2
   ·exact hp.elim
  ·split at hp
   ·rename_i mn x y hc
    have hc':∃ts,c={ callee:=.builtin (if mn then .min else .max),args:=#[x,y],argTypes:=ts }:=by
     unfold mmArg at hc
     split at hc
     ·rename_i h1 h2
      cases hc
      obtain⟨callee,args,argTypes⟩:=c
      simp only at h1 h2
      subst h1
      exact⟨argTypes,by congr 1;exact Array.ext' h2⟩
     ·rename_i h1 h2
      cases hc
      obtain⟨callee,args,argTypes⟩:=c
      simp only at h1 h2
      subst h1
      exact⟨argTypes,by congr 1;exact Array.ext' h2⟩
     ·cases hc
    obtain⟨ts,rfl⟩:=hc'
    obtain⟨av,u,h4,h5,h6⟩:=pMM_ok (P:=P) (ts:=ts) (ty:=ty) (ha.eval x) (ha.eval y) hp
    refine⟨av,u,none,h4,h5,by simp,fun w' _=>?_⟩
    have:=h6 w'
    cases mn
    ·simp at this
     simp[execOp,resolve,invoke,builtin,this]
    ·simp at this
     simp[execOp,resolve,invoke,builtin,this]
   ·exact hp.elim
end
section
variable {P:Program} {E:Env}
inductive AE where
 |ret (v:AV)
 |pan (v:AV)
def ER(E:Env):AE->Ending->Prop
 |.ret a,.returned v=>VR E a v
 |.pan a,.panicked c=>∃v,c=[{ v:=v,recovered:=false }]/\VR E a v
 |_,_=>False
def ACalls(P:Program)(f:FuncId)(args:List AV)(h:AH)(M:Nat->Prop)(Q:AE->AH->Prop):Prop:=
 ∀E w cargs,Rel E h w->VRs E args cargs->Calls P f cargs.toArray w fun e w'=>∃E' h' ae,Step E h M w E' h' w'/\ER E' ae e/\Q ae h'
theorem ACalls.mono{f:FuncId}{args:List AV}{h:AH}{M:Nat->Prop}{Q Q':AE->AH->Prop}(hc:ACalls P f args h M Q)
  (hq:∀ae h',h.next<=h'.next->(∀id,id<h.next->¬M id->h'.obj id=h.obj id)->Q ae h'->Q' ae h'):ACalls P f args h M Q':=
 fun E w cargs hr ha=>(hc E w cargs hr ha).mono fun _ _ ⟨E',h',ae,hs,he,hQ⟩=>⟨E',h',ae,hs,he,hq _ _ hs.next hs.keep hQ⟩
def entOk(P:Program)(f:FuncId):Bool:=
 match P.funcs[f]? with
 | some fn => fn.name != "runtime.NumGoroutine" && fn.body.isSome
 |none=>false
theorem callFunc_run{f:FuncId}(h:entOk P f=true)(args:Array Value)(w:World):(callFunc f args).run P w=.ok (.enter f args) w:=by
 unfold entOk at h
 split at h
 ·rename_i fn hf
  simp only[yC,bne_iff_ne,ne_eq]at h
  obtain⟨h1,h2⟩:=h
  obtain⟨b,hb⟩:=Option.isSome_iff_exists.1 h2
  simp[callFunc,hf,h1,hb]
 ·cases h
def aCall(P:Program)(W:Nat->Prop)(f:FuncId)(args:List AV)(h:AH)(K:AV->AH->Prop)(KP:AV->AH->Prop):Prop:=
 ∃M:Nat->Prop,(∀id,M id->id<h.next->W id)/\ACalls P f args h M fun ae h'=>match ae with |.ret v=>K v h' |.pan v=>KP v h'
def bxSz(P:Program)(t:TypeId):Nat:=
 match P.underlying t with
 |some (.array _ e)=>(szOf P e).getD 0
 |_=>(szOf P t).getD 0
def appArg(c:Call):Option (Operand×Operand×TypeId):=
 match c.callee,c.args.toList,c.argTypes.toList with
 |.builtin .append,[x,y],[t,t']=>if t=t' then some (x,y,t) else none
 |_,_,_=>none
def appSArg(c:Call):Option (Operand×Operand×TypeId×TypeId):=
 match c.callee,c.args.toList,c.argTypes.toList with
 |.builtin .append,[x,y],[t,t']=>if t=t' then none else some (x,y,t,t')
 |_,_,_=>none
def fnArg(c:Call):Option Operand:=
 match c.callee with
 |.value f=>some f
 |_=>none
abbrev noA:AV:=.sc undef
def aGo(P:Program)(W:Nat->Prop)(x:AV)(args:List AV)(h:AH)(K:AV->AH->Prop)(KP:AV->AH->Prop):Prop:=
 match x with
 |.fn (.func g) first cap=>match entOk P g with
  |true=>aCall P W g (first++args++cap) h K KP
  |false=>False
 |_=>False
def aPan(x:AV)(h:AH)(KP:AV->AH->Prop):Prop:=
 match x with
 |.ifc t v=>KP (.ifc t v) h
 |_=>False
def aDef(x:AV)(args:List AV)(ds:List ADef)(K:List ADef->Prop):Prop:=
 match x with
 |.fn f first cap=>K (⟨f,cap,first++args⟩::ds)
 |_=>False
def eOp(P:Program)(W:Nat->Prop)(op:Op)(ρ:Operand->AV)(ds:List ADef)(h:AH)(K:AV->List ADef->AH->Prop)(KP:AV->AH->Prop):Prop:=
 match op with
 |.alloc t=>eAlloc (zeroOf P t) (bxSz P t) t h fun v h'=>K v ds h'
 |.box t x=>eBox (bxSz P t) t (ρ x) h fun v h'=>K v ds h'
 |.store t a x=>eStore (szOf P t) (ρ a) (ρ x) h W fun h'=>K noA ds h'
 |.buildSlice t len parts=>eBSl (bslZ P t len) len (parts.toList.map fun x=>(x.1,ρ x.2)) h fun v h'=>K v ds h'
 |.makeSlice t l c=>eMk (mkOf P t) (ρ l) (ρ c) h fun v h'=>K v ds h'
 |.makeMap t none=>eMkM t h fun v h'=>K v ds h'
 |.mapUpdate t m k x=>eMSet P (mapOf P t) (ρ m) (ρ k) (ρ x) h W fun h'=>K noA ds h'
 |.insert t m k x=>eMSet P (mapOf P t) (ρ m) (ρ k) (ρ x) h W fun h'=>K noA ds h'
 |.range t x=>eRange (isStr P t) (ρ x) h fun v h'=>K v ds h'
 |.next x true=>eNext (ρ x) h W fun v h'=>K v ds h'
 |.panic x=>aPan (ρ x) h KP
 |.defer c=>match fnArg c with
  |some f=>aDef (ρ f) (c.args.toList.map ρ) ds fun ds'=>K noA ds' h
  |none=>False
 |.call c=>match appArg c with
  |some (x,y,t)=>eApp (appOf P t) (ρ x) (ρ y) h W fun v h'=>K v ds h'
  |none=>match appSArg c with
   |some (x,y,t,u)=>eAppS (appSOf P t u) (ρ x) (ρ y) h W fun v h'=>K v ds h'
   |none=>match fnArg c with
    |some f=>aGo P W (ρ f) (c.args.toList.map ρ) h (fun v h'=>K v ds h') KP
    |none=>False
 |_=>False
theorem eOp_ok{N:Nat}{s:St}{a:Act}{h:AH}{w:World}{W:Nat->Prop}{K:AV->List ADef->AH->Prop}{KP:AV->AH->Prop}(o:Oper)(hr:Rel E h w)(ha:AR E N s a)
  (hp:eOp P W o.op (aev s) s.ds h K KP) {next:Act->World->Prop} {Q:Exit->Act->World->Prop}
  (hn:∀v ds' E' h' w' a',Step E h W w E' h' w'->AR E' N (({ s with ds:=ds' }:St).put N o.dst v) a'->K v ds' h'->next a' w')
  (hq:∀v E' h' w' u,Step E h W w E' h' w'->VR E' v u->KP v h'->Q (.panic [{ v:=u,recovered:=false }]) a w'):o.wp P a w next Q:=by
 obtain⟨dst,op,ty,pos,after,guard⟩:=o
 simp only at hp
 unfold Oper.wp
 have es:∀(sv:Sem Value),ES P E h W w sv (fun v h'=>K v s.ds h')->execOp a.eval ⟨dst,op,ty,pos,after,guard⟩=(do pure (.value (<-sv))) ->
   Oper.upon P ⟨dst,op,ty,pos,after,guard⟩ a next Q ((execOp a.eval ⟨dst,op,ty,pos,after,guard⟩).run P w):=by
  intro sv ⟨av,u,E',h',w',h1,h2,h3,h4⟩ he
  rw[he]
  simp only[Sem.run_bind,h4,Result.andThen_ok,Sem.run_pure,Oper.upon_value]
  exact hn av s.ds E' h' w' _ h1 ((ha.mono h1.env).put _ h2) h3
 cases op<;>simp only[eOp]at hp<;>try exact hp.elim
 case alloc t=>exact es _ (eAlloc_ok hr hp) rfl
 case box t x=>exact es _ (eBox_ok hr (ha.eval x) hp) rfl
 case store t x y=>
  obtain⟨E',h',w',h1,h2,h3⟩:=eStore_ok hr (ha.eval x) (ha.eval y) hp
  simp only[execOp,Sem.run_bind,h3,Result.andThen_ok,Sem.run_pure,Oper.upon_skip]
  exact hn noA s.ds E' h' w' _ h1 ((ha.mono h1.env).put _ (.sc _)) h2
 case buildSlice t len ps=>exact es _ (eBSl_ok hr (by simpa using ha.parts ps.toList) hp) rfl
 case makeSlice t l c=>exact es _ (eMk_ok hr (ha.eval l) (ha.eval c) hp) rfl
 case makeMap t r=>
  cases r<;>simp only at hp
  exact es _ (eMkM_ok hr hp) rfl
 case mapUpdate t m k x=>
  obtain⟨E',h',w',h1,h2,h3⟩:=eMSet_ok hr (ha.eval m) (ha.eval k) (ha.eval x) hp
  simp only[execOp,Sem.run_bind,h3,Result.andThen_ok,Sem.run_pure,Oper.upon_skip]
  exact hn noA s.ds E' h' w' _ h1 ((ha.mono h1.env).put _ (.sc _)) h2
 case insert t m k x=>
  obtain⟨E',h',w',h1,h2,h3⟩:=eMSet_ok hr (ha.eval m) (ha.eval k) (ha.eval x) hp
  simp only[execOp,Sem.run_bind,h3,Result.andThen_ok,Sem.run_pure,Oper.upon_skip]
  exact hn noA s.ds E' h' w' _ h1 ((ha.mono h1.env).put _ (.sc _)) h2
 case range t x=>exact es _ (eRange_ok hr (ha.eval x) hp) rfl
 case next x b=>
  cases b<;>simp only at hp
  exact es _ (eNext_ok hr (ha.eval x) hp) rfl
 case panic x=>
  have hx:=ha.eval x
  unfold aPan at hp
  split at hp
  ·rename_i t v he
   rw[he]at hx
   generalize hv:a.eval x=u at hx
   cases hx with
   |ifc h1=>
    simp only[execOp,hv,Instr.panic,Sem.run_bind,run_goPanic,Result.andThen_halt,Oper.upon_panic]
    exact hq _ E h w _ (Step.refl hr) (.ifc h1) hp
  ·exact hp.elim
 case defer c=>
  split at hp
  ·rename_i f hf
   have hx:=ha.eval f
   have hargs:=ha.evals c.args.toList
   unfold aDef at hp
   split at hp
   ·rename_i fn first cap he
    rw[he]at hx
    generalize hv:a.eval f=u at hx
    cases hx with
    |fn h1 h2=>
     rename_i vs ws
     have hcal:c.callee=.value f:=by
      unfold fnArg at hf
      split at hf
      ·rename_i g hg;cases hf;exact hg
      ·cases hf
     simp only[execOp,Sem.run_bind,resolve,hcal,hv,Deferred.ofValue,Sem.run_pure,Result.andThen_ok,Oper.upon_defer]
     have har:AR E N ({ s with ds:=⟨fn,cap,first++c.args.toList.map (aev s)⟩::s.ds }:St) { a with defers:=⟨.fn fn ws.toArray,vs.toArray++c.args.map a.eval⟩::a.defers }:=by
      refine⟨ha.size,ha.tm,.cons ⟨ws,vs++c.args.toList.map a.eval,rfl,?_,h2,h1.append hargs⟩ ha.ds⟩
      apply Array.ext';simp
     exact hn noA _ E h w _ (Step.refl hr) (har.put _ (.sc _)) hp
   ·exact hp.elim
  ·exact hp.elim
 case call c=>
  split at hp
  ·rename_i x y t hc
   have hc':c={ callee:=.builtin .append,args:=#[x,y],argTypes:=#[t,t] }:=by
    unfold appArg at hc
    split at hc
    ·rename_i h1 h2 h3
     split at hc
     ·rename_i htt
      cases hc
      obtain⟨callee,args,argTypes⟩:=c
      simp only at h1 h2 h3
      subst h1
      congr 1
      ·exact Array.ext' h2
      ·exact Array.ext' (by rw[h3,htt])
     ·cases hc
    ·cases hc
   subst hc'
   exact es _ (eApp_ok (ty:=ty) hr (ha.eval x) (ha.eval y) hp) (by simp[execOp,resolve,invoke,builtin])
  split at hp
  ·rename_i x y t u hc
   have hc':c={ callee:=.builtin .append,args:=#[x,y],argTypes:=#[t,u] }:=by
    unfold appSArg at hc
    split at hc
    ·rename_i h1 h2 h3
     split at hc
     ·cases hc
     ·cases hc
      obtain⟨callee,args,argTypes⟩:=c
      simp only at h1 h2 h3
      subst h1
      congr 1
      ·exact Array.ext' h2
      ·exact Array.ext' h3
    ·cases hc
   subst hc'
   exact es _ (eAppS_ok (ty:=ty) hr (ha.eval x) (ha.eval y) hp) (by simp[execOp,resolve,invoke,builtin])
  ·split at hp
   ·rename_i f hf
    have hx:=ha.eval f
    have hargs:=ha.evals c.args.toList
    have hcal:c.callee=.value f:=by
     unfold fnArg at hf
     split at hf
     ·rename_i g hg;cases hf;exact hg
     ·cases hf
    unfold aGo at hp
    split at hp
    ·rename_i g first cap he
     rw[he]at hx
     generalize hv:a.eval f=u at hx
     cases hx with
     |fn h1 h2=>
      rename_i vs ws
      split at hp
      ·rename_i hent
       obtain⟨M,hM,hcalls⟩:=hp
       have hrun:(execOp a.eval ⟨dst,.call c,ty,pos,after,guard⟩).run P w=.ok (.enter g ((vs++c.args.toList.map a.eval)++ws).toArray) w:=by
        simp only[execOp,Sem.run_bind,resolve,hcal,hv,Deferred.ofValue,Sem.run_pure,Result.andThen_ok,invoke,callFunc_run hent]
        congr 2
        apply Array.ext';simp
       rw[hrun,Oper.upon_enter]
       refine(hcalls E w _ hr ((h1.append hargs).append h2)).mono ?_
       rintro e w' ⟨E',h',ae,hst,her,hQ⟩
       have hst':Step E h W w E' h' w':=by
        have:=(Step.refl (M:=W) hr).trans hr hst (fun id hlt hm=>.inl (hM id hm hlt))
        exact this
       cases ae with
       |ret v=>
        cases e with
        |returned u=>exact hn v s.ds E' h' w' _ hst' ((ha.mono hst'.env).put _ her) hQ
        |panicked c=>exact her.elim
        |outgrown=>exact her.elim
       |pan v=>
        cases e with
        |returned u=>exact her.elim
        |panicked c=>
         obtain⟨u,rfl,hu⟩:=her
         exact hq v E' h' w' u hst' hu hQ
        |outgrown=>exact her.elim
      ·exact hp.elim
    ·exact hp.elim
   ·exact hp.elim
end
section
variable {P:Program} {ops:Array Oper} {Q:Exit->Act->World->Prop} {md:Region.Mode} {S:Nat->World->Prop}
inductive Tr (md:Region.Mode) (ops:Array Oper):Nat->Nat->Prop
 |one {i j:Nat} {o:Oper} {e:Edge}:ops[j]?=some o->e∈o.after->Region.binds md e=true->e.on=i->Tr md ops i j
 |step {i j:Nat} {o:Oper} {e:Edge}:ops[j]?=some o->e∈o.after->Region.binds md e=true->Tr md ops i e.on->Tr md ops i j
def Closed(md:Region.Mode)(ops:Array Oper)(listed:Array Bool):Prop:=
 ∀j o,listed.getD j false=true->ops[j]?=some o->∀e∈o.after,Region.binds md e=true->listed.getD e.on false=true
theorem Closed.tr{listed:Array Bool}(hc:Closed md ops listed){i j:Nat}(ht:Tr md ops i j):listed.getD j false=true->listed.getD i false=true:=by
 induction ht with
 |one h1 h2 h3 h4=>intro h;rw[<-h4];exact hc _ _ h h1 _ h2 h3
 |step h1 h2 h3 _ ih=>intro h;exact ih (hc _ _ h h1 _ h2 h3)
theorem Closed.ready{listed:Array Bool}(hc:Closed md ops listed){i j:Nat}(ht:Tr md ops i j)(hj:j∈Region.ready md ops listed):listed.getD i false=true:=by
 obtain⟨_,o,ho,hall⟩:=mem_ready.1 hj
 cases ht with
 |one h1 h2 h3 h4=>rw[ho]at h1;cases h1;rw[<-h4];exact hall _ h2 h3
 |step h1 h2 h3 h4=>rw[ho]at h1;cases h1;exact hc.tr h4 (hall _ h2 h3)
theorem Closed.set{listed:Array Bool}(hc:Closed md ops listed){i:Nat}(hi:i∈Region.ready md ops listed):Closed md ops (listed.setIfInBounds i true):=by
 intro j o hj ho e he hb
 by_cases hji:i=j
 ·subst hji
  obtain⟨_,o',ho',hall⟩:=mem_ready.1 hi
  rw[ho]at ho';cases ho'
  exact getD_set_true (hall e he hb)
 ·rw[getD_set_ne false hji]at hj
  exact getD_set_true (hc j o hj ho e he hb)
def isA:Op->Bool
 |.alloc .. |.box .. |.makeSlice .. |.buildSlice .. |.makeMap ..=>true
 |_=>false
def Ext(w w':World):Prop:=∀b,b<w.heap.size->w'.heap[b]?=w.heap[b]?
theorem Ext.refl{w:World}:Ext w w:=fun _ _=>rfl
theorem Ext.of_heap{w w':World}(h:w'.heap=w.heap):Ext w w':=fun _ _=>by rw[h]
theorem Ext.size{w w':World}(h:Ext w w'):w.heap.size<=w'.heap.size:=by
 rcases Nat.lt_or_ge w'.heap.size w.heap.size with hlt |hge
 ·have:=h _ hlt
  rw[Array.getElem?_eq_none (zU _),Array.getElem?_eq_getElem hlt]at this
  cases this
 ·exact hge
theorem Ext.trans{w w' w'':World}(h1:Ext w w')(h2:Ext w' w''):Ext w w'':=fun b hb=>by rw[h2 b (Nat.lt_of_lt_of_le hb h1.size),h1 b hb]
def RR(C:Nat->Nat->Bool)(S:Nat->World->Prop)(pu:Nat->Bool)(j:Nat)(o:Oper)(w w':World):Prop:=if isQ o.op=true then w'.heap=w.heap else(∀i,C j i=true->S i w')/\(isA o.op=true\/pu j=true->Ext w w')
def wpAnyR(P:Program)(md:Region.Mode)(ops:Array Oper)(Q:Exit->Act->World->Prop)(C:Nat->Nat->Bool)(S:Nat->World->Prop)(pu:Nat->Bool):Nat->Array Bool->Act->World->Prop
 |0,listed,a,w=>Region.ready md ops listed=[]/\Q .normal a w
 |fuel+1,listed,a,w=>
  (Region.ready md ops listed=[]->Q .normal a w) /\
  ∀i∈Region.ready md ops listed,wpOp P ops Q i (fun a' w'=>(∀o,ops[i]?=some o->RR C S pu i o w w')/\wpAnyR P md ops Q C S pu fuel (listed.setIfInBounds i true) a' w') a w
theorem wpAny_of_R{C:Nat->Nat->Bool}{pu:Nat->Bool}:∀(fuel:Nat)(listed:Array Bool)(a:Act)(w:World),wpAnyR P md ops Q C S pu fuel listed a w->wpAny P md ops Q fuel listed a w
 |0,_,_,_,h=>h
 |fuel+1,_,_,_,h=>⟨h.1,fun i hi=>wpOp_mono (fun a' w' h'=>wpAny_of_R fuel _ a' w' h'.2) (h.2 i hi)⟩
def Yq(P:Program)(ops:Array Oper)(T:World->Prop)(o:Oper)(v:Value)(a:Act):Prop:=
 (Region.wanted o (yielded ops a.tmps)=true/\∀w',T w'->(execOp a.eval o).run P w'=.ok (.value v) w') \/
 (Region.wanted o (yielded ops a.tmps)=false/\v=undef)
section
variable {T:World->Prop} {C:Nat->Nat->Bool} {pu:Nat->Bool}
theorem Yq.wpOp{i:Nat}{o:Oper}{v:Value}{a:Act}{w:World}(hi:ops[i]?=some o)(hy:Yq P ops T o v a)(hS:T w){K:Act->World->Prop}(h:K (a.put o.dst v) w) :
  wpOp P ops Q i K a w:=by
 unfold Go.wpOp
 simp only[hi]
 rcases hy with⟨hw,hv⟩ |⟨hw,rfl⟩
 ·have:=hv w hS
  simp only[hw,zV,Oper.wp,this,Oper.upon];exact .inl h
 ·simp only[hw,zE,if_false];exact h
theorem Yq.of_same{o:Oper}{v:Value}{a a':Act}(hy:Yq P ops T o v a)(he:execOp a'.eval o=execOp a.eval o)
  (hw:Region.wanted o (yielded ops a'.tmps)=Region.wanted o (yielded ops a.tmps)):Yq P ops T o v a':=by
 unfold Yq at *
 rw[he,hw]
 exact hy
theorem wpOp_putR{i j:Nat}{oi oj:Oper}{v:Value}(hj:ops[j]?=some oj)(hap:oi.apart ops oj=true)
  (hsi:∀cs b,oi.op≠.select cs b) (hsj:∀cs b,oj.op≠.select cs b) (hQ:∀c a w,Q (.panic c) (a.put oi.dst v) w->Q (.panic c) a w) {K:Act->World->Prop} {a:Act} {w:World}
  (hy:Yq P ops T oi v a) (h:wpOp P ops Q j K (a.put oi.dst v) w) :
  wpOp P ops Q j (fun a' w'=>Yq P ops T oi v a'/\K (a'.put oi.dst v) w') a w:=by
 obtain⟨h1,h2,h3⟩:=Oper.apart_spec hap
 have keepP:∀(a':Act),Yq P ops T oi v a'->∀u,Yq P ops T oi v (a'.put oj.dst u):=fun a' hy u=>
  hy.of_same (execOp_put oi hsi a' oj.dst u h3) (wanted_put oi a' oj.dst u h3)
 have keepD:∀d,Yq P ops T oi v { a with defers:=d::a.defers }:=fun d=>hy.of_same rfl rfl
 unfold Go.wpOp at *
 simp only[hj]at *
 rw[wanted_put oj a oi.dst v h1]at h
 split
 ·rename_i hw
  simp only[hw,zV]at h
  rcases h with h |⟨hasks,hlets⟩
  case inr=>exact .inr ⟨by unfold Oper.asks at *;rw[execOp_put oj hsj a oi.dst v h1]at hasks;exact hasks,hlets⟩
  refine .inl ?_
  unfold Oper.wp at *
  rw[execOp_put oj hsj a oi.dst v h1]at h
  generalize (execOp a.eval oj).run P w=r at *
  cases r with
  |ok n w'=>
   cases n<;>simp only[Oper.upon]at h ⊢
   case value u=>exact⟨keepP a hy u,by rw[<-Act.put_comm a v u h2];exact h⟩
   case skip=>exact⟨keepP a hy _,by rw[<-Act.put_comm a v undef h2];exact h⟩
   case defer d=>
    refine⟨keepP _ (keepD d) _,?_⟩
    rw[<-Act.put_comm _ v undef h2,<-Act.put_defers]
    exact h
   case enter f args=>
    refine Calls.mono h fun e w'' he=>?_
    cases e with
    |returned u=>exact⟨keepP a hy u,by rw[<-Act.put_comm a v u h2];exact he⟩
    |panicked c=>exact hQ _ _ _ he
    |outgrown=>exact he
   case row row args=>exact Rows.mono h fun u w'' he=>⟨keepP a hy u,by rw[<-Act.put_comm a v u h2];exact he⟩
  |halt x w'=>
   cases x<;>simp only[Oper.upon]at h ⊢
   case panic u=>exact hQ _ _ _ h
 ·rename_i hw
  simp only[hw]at h
  exact⟨keepP a hy _,by rw[<-Act.put_comm a v undef h2];exact h⟩
theorem first_any{i:Nat}{oi:Oper}{v:Value}(hi:ops[i]?=some oi)(hqi:isQ oi.op=true)(hsel:∀(j:Nat)(o:Oper) cs b,ops[j]?=some o->o.op≠.select cs b)
  (hQ:∀c a w,Q (.panic c) (a.put oi.dst v) w->Q (.panic c) a w) :
  ∀(fuel:Nat)(listed:Array Bool)(a:Act)(w:World),Closed md ops listed ->
   (∀j oj,ops[j]?=some oj->j≠i->listed.getD j true=false->¬Tr md ops i j->oi.apart ops oj=true/\(∀w w',T w->RR C S pu j oj w w'->T w')) ->
   i∈Region.ready md ops listed->Yq P ops T oi v a->T w ->
   wpAnyR P md ops Q C S pu fuel (listed.setIfInBounds i true) (a.put oi.dst v) w->wpAnyR P md ops Q C S pu (fuel+1) listed a w:=by
 have selfR:∀w:World,∀o,ops[i]?=some o->RR C S pu i o w w:=by
  intro w o ho
  rw[hi]at ho;cases ho
  unfold RR;rw[zX hqi]
 intro fuel
 induction fuel with
 |zero=>
  intro listed a w hc _ hr hy hS H
  refine⟨fun h=>(by rw[h]at hr;cases hr),fun j hj=>?_⟩
  by_cases hji:j=i
  ·subst hji;exact hy.wpOp hi hS ⟨selfR w,H⟩
  ·have:=ready_mono hj hji
   rw[H.1]at this
   cases this
 |succ fuel ih=>
  intro listed a w hc hfree hr hy hS H
  refine⟨fun h=>(by rw[h]at hr;cases hr),fun j hj=>?_⟩
  by_cases hji:j=i
  ·subst hji;exact hy.wpOp hi hS ⟨selfR w,H⟩
  ·have h1:=H.2 j (ready_mono hj hji)
   obtain⟨hjun,oj,hoj,_⟩:=mem_ready.1 hj
   have hin:listed.getD i false=false:=by
    have h0:=(mem_ready.1 hr).1
    rcases Nat.lt_or_ge i listed.size with h' |h'
    ·simp[h']at h0 ⊢;exact h0
    ·simp[Array.getElem?_eq_none h']
   have hnt:¬Tr md ops i j:=fun ht=>by have:=hc.ready ht hj;rw[hin]at this;cases this
   obtain⟨hap,hq⟩:=hfree j oj hoj hji hjun hnt
   have h2:=wpOp_putR (i:=i) hoj hap (fun cs b=>hsel i oi cs b hi) (fun cs b=>hsel j oj cs b hoj) hQ hy h1
   have hfree':∀k ok,ops[k]?=some ok->k≠i->(listed.setIfInBounds j true).getD k true=false->¬Tr md ops i k->oi.apart ops ok=true/\(∀w w',T w->RR C S pu k ok w w'->T w'):=by
    intro k ok hk hki hun hno
    refine hfree k ok hk hki ?_ hno
    by_cases hjk:j=k
    ·subst hjk;exact hjun
    ·rw[getD_set_ne true hjk]at hun;exact hun
   refine wpOp_mono (fun a' w' h3=>?_) h2
   obtain⟨hy',hR',h4⟩:=h3
   refine⟨hR',ih (listed.setIfInBounds j true) a' w' (hc.set hj) hfree' (ready_mono hr (Ne.symm hji)) hy' (hq w w' hS (hR' oj hoj)) ?_⟩
   rw[Array.setIfInBounds_comm _ _ hji]
   exact h4
end
def befGo(md:Region.Mode):List Oper->List Nat->List Nat
 |[],acc=>acc
 |o::rest,acc=>befGo md rest (acc++[o.after.toList.foldl (fun s e=>if Region.binds md e then s |||2^e.on |||acc.getD e.on 0 else s) 0])
def Good(md:Region.Mode)(ops:Array Oper)(acc:List Nat):Prop:=∀j i,(acc.getD j 0).testBit i=true->Tr md ops i j
theorem foldl_bits{acc:List Nat}{j:Nat}{o:Oper}(hg:Good md ops acc)(ho:ops[j]?=some o):∀(l:List Edge),(∀e∈l,e∈o.after)->∀s:Nat,(∀i,s.testBit i=true->Tr md ops i j) ->
  ∀i,(l.foldl (fun s e=>if Region.binds md e then s |||2^e.on |||acc.getD e.on 0 else s) s).testBit i=true->Tr md ops i j
 |[],_,s,hs,i,hi=>hs i hi
 |e::l,hl,s,hs,i,hi=>by
  simp only[List.foldl_cons]at hi
  refine foldl_bits hg ho l (fun e he=>hl e (by simp[he])) _ ?_ i hi
  intro k hk
  by_cases hb:Region.binds md e=true
  ·rw[zX hb]at hk
   simp only[Nat.testBit_or,Bool.or_eq_true,Nat.testBit_two_pow]at hk
   rcases hk with(hk |hk) |hk
   ·exact hs k hk
   ·exact .one ho (hl e (by simp)) hb (by simpa using hk)
   ·exact .step ho (hl e (by simp)) hb (hg _ _ hk)
  ·rw[zW hb]at hk;exact hs k hk
theorem befGo_good:∀(l:List Oper)(acc:List Nat),(∀k,l[k]?=ops[acc.length+k]?)->Good md ops acc->Good md ops (befGo md l acc)
 |[],_,_,h=>h
 |o::l,acc,hl,h=>by
  simp only[befGo]
  refine befGo_good l _ (fun k=>?_) ?_
  ·have:=hl (k+1)
   simp only[List.length_append,List.length_singleton]
   rw[show acc.length+1+k=acc.length+(k+1) from by omega,<-this]
   simp
  ·intro j i hi
   rw[List.getD_eq_getElem?_getD,List.getElem?_append]at hi
   split at hi
   ·exact h j i (by rw[List.getD_eq_getElem?_getD];exact hi)
   ·rename_i hlt
    by_cases he:j=acc.length
    ·subst he
     simp only[Nat.sub_self,zA,Option.getD_some]at hi
     have h0:=hl 0
     simp only[zA,Nat.add_zero]at h0
     exact foldl_bits h h0.symm o.after.toList (fun e he=>by simpa using he) 0 (by simp) i hi
    ·have:j-acc.length≠0:=by omega
     rw[List.getElem?_cons,zW this]at hi
     simp at hi
def bef(md:Region.Mode)(ops:Array Oper):List Nat:=befGo md ops.toList []
theorem bef_ok{i j:Nat}(h:((bef md ops).getD j 0).testBit i=true):Tr md ops i j:=
 befGo_good ops.toList [] (fun k=>by simp) (fun j i hi=>by simp at hi) j i h
end
section
variable {P:Program} {h:AH}
section
variable {K K':AV->Prop} (hk:∀v,K v->K' v)
include hk
theorem pPick_mono{c a b:AV}(hp:pPick c a b K):pPick c a b K':=by unfold pPick at *;split at hp<;>simp_all
theorem pNil_mono{x:AV}(hp:pNil x K):pNil x K':=by unfold pNil at *;split at hp<;>simp_all
theorem pFld_mono{d:Option Nat}{x:AV}(hp:pFld d x K):pFld d x K':=by unfold pFld at *;split at hp<;>simp_all
theorem pIxA_mono{s:Option (Nat×Option Nat)}{x i:AV}(hp:pIxA s x i K):pIxA s x i K':=by unfold pIxA at *;split at hp<;>simp_all
theorem pIxS_mono{t:Bool}{x i:AV}(hp:pIxS t x i K):pIxS t x i K':=by
 unfold pIxS at *;split at hp
 ·obtain⟨c,h1,h2⟩:=hp;exact⟨c,h1,hk _ h2⟩
 ·exact hp.elim
theorem pFdV_mono{d:Option (Nat×Nat×Bool)}{x:AV}(hp:pFdV d x K):pFdV d x K':=by
 unfold pFdV at *;split at hp
 ·exact hk _ hp
 ·obtain⟨c,h1,h2⟩:=hp;exact⟨c,h1,hk _ h2⟩
 ·exact hp.elim
theorem pExt_mono{x:AV}{k:Nat}(hp:pExt x k K):pExt x k K':=by
 unfold pExt at *;split at hp
 ·obtain⟨c,h1,h2⟩:=hp;exact⟨c,h1,hk _ h2⟩
 ·exact hp.elim
theorem pUn_mono{op:UnOp}{x:AV}(hp:pUn op x K):pUn op x K':=by unfold pUn at *;split at hp<;>simp_all
theorem pSlS_mono{x:AV}{lo hi:Option AV}(hp:pSlS x lo hi K):pSlS x lo hi K':=by
 unfold pSlS at *;split at hp
 ·obtain⟨l,u,a,b,c,d⟩:=hp;exact⟨l,u,a,b,c,hk _ d⟩
 ·exact hp.elim
theorem pSlL_mono{sz:Option Nat}{x:AV}{lo hi:Option AV}(hp:pSlL sz x lo hi h K):pSlL sz x lo hi h K':=by
 unfold pSlL at *;split at hp
 ·obtain⟨l,u,a,b,c,d⟩:=hp;exact⟨l,u,a,b,c,hk _ d⟩
 ·exact⟨hp.1,hp.2.1,hk _ hp.2.2⟩
 ·exact hp.elim
theorem pLen_mono{x:AV}(hp:pLen x K):pLen x K':=by unfold pLen at *;split at hp<;>simp_all
theorem pMkI_mono{d:Option Bool}{t:TypeId}{x:AV}(hp:pMkI d t x K):pMkI d t x K':=by unfold pMkI at *;split at hp<;>simp_all
theorem pCnv_mono{k:Option IntKind}{x:AV}(hp:pCnv k x K):pCnv k x K':=by unfold pCnv at *;split at hp<;>simp_all
theorem pTA_mono{d:Option Bool}{T:TypeId}{ok:Bool}{x:AV}(hp:pTA d T ok x K):pTA d T ok x K':=by
 unfold pTA at *;split at hp
 ·exact⟨hp.1,hk _ hp.2⟩
 ·exact hp.elim
theorem pBin_mono{op:BinOp}{t:TypeId}{cst:Bool}{x y:AV}(hp:pBin P op t cst x y K):pBin P op t cst x y K':=by
 unfold pBin at *
 split at hp<;>first |exact hp.elim |exact hk _ hp |exact⟨hp.1,hk _ hp.2⟩ |exact⟨hp.1,hp.2.1,hk _ hp.2.2⟩
theorem pBld_mono{b:Option (List Value×(List (Nat×Nat) ⊕ Nat))}{ps:List (Nat×AV)}(hp:pBld b ps K):pBld b ps K':=by
 unfold pBld at *;split at hp
 ·obtain⟨c,h1,h2⟩:=hp;exact⟨c,h1,hk _ h2⟩
 ·obtain⟨c,h1,h2⟩:=hp;exact⟨c,h1,hk _ h2⟩
 ·exact hp.elim
end
theorem pMM_mono{K K':AV->Prop}(hk:∀v,K v->K' v){mn:Bool}{x y:AV}(hp:pMM mn x y K):pMM mn x y K':=by
 unfold pMM at *;split at hp
 ·exact⟨hp.1,hk _ hp.2⟩
 ·exact hp.elim
theorem pB2S_mono{K K':AV->Nat->Prop}(hk:∀v d,K v d->K' v d){x:AV}(hp:pB2S x h K):pB2S x h K':=by
 unfold pB2S at *;split at hp
 ·obtain⟨o,l,h1,h2⟩:=hp;exact⟨o,l,h1,hk _ _ h2⟩
 ·exact hp.elim
theorem lLd_mono{K K':AV->Nat->Prop}(hk:∀v d,K v d->K' v d){g:Option Bool}{n:Option Nat}{x:AV}(hp:lLd g n x h K):lLd g n x h K':=by
 unfold lLd at *;split at hp
 ·obtain⟨o,c,h1,h2⟩:=hp;exact⟨o,c,h1,hk _ _ h2⟩
 ·obtain⟨o,h1,h2⟩:=hp;exact⟨o,h1,hk _ _ h2⟩
 ·exact hp.elim
def isLoad(P:Program):Op->Bool
 |.load .. |.lookup ..=>true
 |.convert s d _=>b2sT P s d
 |_=>false
theorem mRead_mono{K K':AV->Prop}(hk:∀v,K v->K' v){d:TypeId×TypeId}{l:List (AV×AV)}{k:AV}{ok:Bool}(hp:mRead P d l k ok K):mRead P d l k ok K':=by
 obtain⟨h1,r,z,h2,h3,h4⟩:=hp
 refine⟨h1,r,z,h2,h3,?_⟩
 cases r with
 |none=>exact hk _ h4
 |some x=>exact hk _ h4
theorem lLook_mono{K K':AV->Option Nat->Prop}{d:Option (TypeId×TypeId)}{x k:AV}{ok:Bool}(hk:∀v d,K v d->K' v d)(hp:lLook P d x k ok h K):lLook P d x k ok h K':=by
 unfold lLook at *;split at hp
 ·obtain⟨o,l,h1,h2⟩:=hp;exact⟨o,l,h1,mRead_mono (fun v=>hk v _) h2⟩
 ·exact mRead_mono (fun v=>hk v _) hp
 ·exact hp.elim
theorem eMkM_mono{t:TypeId}{K K':AV->AH->Prop}(hk:∀v h',K v h'->K' v h')(hp:eMkM t h K):eMkM t h K':=hk _ _ hp
theorem eMSet_mono{d:Option (TypeId×TypeId)}{x k v:AV}{W:Nat->Prop}{K K':AH->Prop}(hk:∀h',K h'->K' h')(hp:eMSet P d x k v h W K):eMSet P d x k v h W K':=by
 unfold eMSet at *;split at hp
 ·obtain⟨o,l,r,h1,h2,h3,h4⟩:=hp;exact⟨o,l,r,h1,h2,h3,hk _ h4⟩
 ·exact hp.elim
theorem qOp_mono{op:Op}{ρ:Operand->AV}{K K':AV->Option Nat->Prop}(hk:∀v d,(isLoad P op=false->d=none)->K v d->K' v d)(hp:qOp P op ρ h K):qOp P op ρ h K':=by
 cases op<;>simp only[qOp]at hp ⊢<;>try exact hp.elim
 case move=>exact hk _ _ (by simp) hp
 case assign=>exact hk _ _ (by simp) hp
 case pick=>exact pPick_mono (fun v=>hk v none (by simp)) hp
 case nilCheck=>exact pNil_mono (fun v=>hk v none (by simp)) hp
 case fieldAddr=>exact pFld_mono (fun v=>hk v none (by simp)) hp
 case indexAddr=>exact pIxA_mono (fun v=>hk v none (by simp)) hp
 case index=>exact pIxS_mono (fun v=>hk v none (by simp)) hp
 case field=>exact pFdV_mono (fun v=>hk v none (by simp)) hp
 case extract=>exact pExt_mono (fun v=>hk v none (by simp)) hp
 case binOp=>exact pBin_mono (fun v=>hk v none (by simp)) hp
 case unOp=>exact pUn_mono (fun v=>hk v none (by simp)) hp
 case makeInterface=>exact pMkI_mono (fun v=>hk v none (by simp)) hp
 case makeFunc=>exact hk _ _ (by simp) hp
 case typeAssert=>exact pTA_mono (fun v=>hk v none (by simp)) hp
 case build=>exact pBld_mono (fun v=>hk v none (by simp)) hp
 case load=>exact lLd_mono (fun v d=>hk v (some d) (by simp[isLoad])) hp
 case lookup=>exact lLook_mono (fun v d=>hk v d (by simp[isLoad])) hp
 case convert=>
  split at hp
  ·rename_i hb
   exact pB2S_mono (fun v d=>hk v (some d) (by simp[isLoad,hb])) hp
  ·split at hp
   ·exact pCnv_mono (fun v=>hk v none (by simp)) hp
   ·exact hp.elim
 case slice t x lo hi mx=>
  cases mx with
  |some _=>exact hp.elim
  |none=>
   simp only at hp ⊢
   split at hp
   ·exact pSlS_mono (fun v=>hk v none (by simp)) hp
   ·exact pSlL_mono (fun v=>hk v none (by simp)) hp
 case call c=>
  split at hp
  ·split at hp
   ·exact⟨hp.1,pLen_mono (fun v=>hk v none (by simp)) hp.2⟩
   ·exact⟨hp.1,pLen_mono (fun v=>hk v none (by simp)) hp.2⟩
   ·exact hp.elim
  ·split at hp
   ·exact pMM_mono (fun v=>hk v none (by simp)) hp
   ·exact hp.elim
section
variable {K K':AV->AH->Prop} (hk:∀v h',K v h'->K' v h')
include hk
theorem eAlloc_mono{z:Option (List Value)}{sz:Nat}{t:TypeId}(hp:eAlloc z sz t h K):eAlloc z sz t h K':=by unfold eAlloc at *;split at hp<;>simp_all
theorem eBox_mono{sz:Nat}{t:TypeId}{x:AV}(hp:eBox sz t x h K):eBox sz t x h K':=by obtain⟨c,a,b,d⟩:=hp;exact⟨c,a,b,hk _ _ d⟩
theorem eBSl_mono{z:Option (Nat×TypeId×List Value)}{len:Nat}{ps:List (Nat×AV)}(hp:eBSl z len ps h K):eBSl z len ps h K':=by
 unfold eBSl at *;split at hp
 ·obtain⟨c,a,b⟩:=hp;exact⟨c,a,hk _ _ b⟩
 ·exact hp.elim
theorem eMk_mono{a:Option (Nat×Nat×TypeId×List Value)}{l c:AV}(hp:eMk a l c h K):eMk a l c h K':=by
 unfold eMk at *;split at hp
 ·exact⟨hp.1,hk _ _ hp.2⟩
 ·exact hp.elim
theorem eRange_mono{t:Bool}{x:AV}(hp:eRange t x h K):eRange t x h K':=by unfold eRange at *;split at hp<;>simp_all
theorem eNext_mono{W:Nat->Prop}{x:AV}(hp:eNext x h W K):eNext x h W K':=by
 unfold eNext at *;split at hp
 ·obtain⟨o,s,p,a,b⟩:=hp
  refine⟨o,s,p,a,?_⟩
  split at b
  ·rename_i hc;rw[zX hc];exact hk _ _ b
  ·rename_i hc;rw[zW hc];exact hk _ _ b
 ·exact hp.elim
theorem eApp_mono{a:Option (Nat×Nat×TypeId)}{x y:AV}{W:Nat->Prop}(hp:eApp a x y h W K):eApp a x y h W K':=by
 unfold eApp at *;split at hp
 ·exact hp.elim
 ·obtain⟨m,cs,hn,hp⟩:=hp
  refine⟨m,cs,hn,?_⟩
  split at hp
  ·split at hp
   ·rename_i hc;rw[zX hc];exact hk _ _ hp
   ·rename_i hc;rw[zW hc];exact⟨hp.1,hk _ _ hp.2⟩
  ·split at hp
   ·rename_i hc;rw[zX hc];exact hk _ _ hp
   ·rename_i hc;rw[zW hc];rcases hp with hp |hp
    ·obtain⟨h0,o,h1,h2⟩:=hp;exact .inl ⟨h0,o,h1,hk _ _ h2⟩
    ·obtain⟨h0,o,h1,h2,h3⟩:=hp;exact .inr ⟨h0,o,h1,hk _ _ h2,hk _ _ h3⟩
  ·exact hp.elim
theorem eAppS_mono{a:Option TypeId}{x y:AV}{W:Nat->Prop}(hp:eAppS a x y h W K):eAppS a x y h W K':=by
 unfold eAppS at *;split at hp
 ·split at hp
  ·split at hp
   ·rename_i hc;rw[zX hc];exact hk _ _ hp
   ·rename_i hc;rw[zW hc];exact⟨hp.1,hk _ _ hp.2⟩
  ·obtain⟨h0,o,h1,h2⟩:=hp;exact⟨h0,o,h1,hk _ _ h2⟩
  ·exact hp.elim
 ·exact hp.elim
theorem aCall_mono{W:Nat->Prop}{f:FuncId}{args:List AV}{KP KP':AV->AH->Prop}(hkp:∀v h',KP v h'->KP' v h')(hp:aCall P W f args h K KP):aCall P W f args h K' KP':=by
 obtain⟨M,h1,h2⟩:=hp
 refine⟨M,h1,h2.mono fun ae h' _ _ hq=>?_⟩
 cases ae with
 |ret v=>exact hk _ _ hq
 |pan v=>exact hkp _ _ hq
theorem aGo_mono{W:Nat->Prop}{x:AV}{args:List AV}{KP KP':AV->AH->Prop}(hkp:∀v h',KP v h'->KP' v h')(hp:aGo P W x args h K KP):aGo P W x args h K' KP':=by
 unfold aGo at *
 split at hp
 ·split at hp
  ·exact aCall_mono hk hkp hp
  ·exact hp.elim
 ·exact hp.elim
end
theorem eStore_mono{K K':AH->Prop}(hk:∀h',K h'->K' h'){n:Option Nat}{a x:AV}{W:Nat->Prop}(hp:eStore n a x h W K):eStore n a x h W K':=by
 unfold eStore at *;split at hp
 ·obtain⟨o,cs,h1,h2⟩:=hp;exact⟨o,cs,h1,hk _ h2⟩
 ·exact hp.elim
end
end Go.Ab
