/- Regions, code and calls over the table are sound; short ways to use them; bodies told straight; maps; slices that hold lists. No condition. -/
import Derived.LoopN
import Derived.Scope
import Derived.Test.YtbdibjgoeeokoaaAb1
set_option maxRecDepth 100000
namespace Go.Ab
section
variable {P:Program} {E:Env}
def stepOk(P:Program)(pu:List Nat)(ops:Array Oper)(B:List Nat)(listed:Array Bool)(x:Nat×Bool):Bool:=
 match ops[x.1]? with
 |none=>false
 |some oi=>
  if isQ oi.op then
   (Region.ready .any ops listed).contains x.1 &&
   (List.range ops.size).all fun j=>j==x.1||listed.getD j true||(B.getD j 0).testBit x.1 ||
    (match ops[j]? with |some oj=>oi.apart ops oj&&(!isLoad P oi.op||isQ oj.op||(match x.2 with |true=>true |false=>isA oj.op||pu.contains j)) |none=>true)
  else Region.ready .any ops listed==[x.1]
def stepsOk(P:Program)(pu:List Nat)(ops:Array Oper)(B:List Nat):List (Nat×Bool)->Array Bool->Bool
 |[],_=>true
 |x::rest,listed=>stepOk P pu ops B listed x&&stepsOk P pu ops B rest (listed.setIfInBounds x.1 true)
def listAll(order:List (Nat×Bool))(listed:Array Bool):Array Bool:=order.foldl (fun l x=>l.setIfInBounds x.1 true) listed
def slotOf(ops:Array Oper)(j:Nat):Option Nat:=(ops[j]?).bind (·.dst)
def grpOk(ops:Array Oper)(g:Option (Nat×Bool)×List (Nat×Bool)):Bool:=
 g.2.all fun x=>match ops[x.1]? with
  |some o=>o.guard==g.1&&(match g.1 with |none=>true |some (j,_)=>(match slotOf ops j with |some d=>o.dst != some d |none=>false))
  |none=>false
inductive Way where
 |mk (path:List (Nat×Bool)) (next:List Way)
def Way.path:Way->List (Nat×Bool)
 |.mk p _=>p
mutual
def Way.items:Way->List (Nat×Bool)
 |.mk p ws=>p++itemsL ws
def itemsL:List Way->List (Nat×Bool)
 |[]=>[]
 |w::r=>w.items++itemsL r
end
structure Plan where
 groups:List (Option (Nat×Bool)×List (Nat×Bool))
 held:Bool
 alts:List Way
 pure:List Nat
def heldOf(p:Plan):List Nat:=((p.groups.flatMap (·.2)++itemsL p.alts).filter (·.2)).map (·.1)
def CC(B hl:List Nat)(j i:Nat):Bool:=hl.contains i&&!(B.getD j 0).testBit i
def qAt(ops:Array Oper)(j:Nat):Bool:=match ops[j]? with |some o=>isQ o.op |none=>false
def phk(ops:Array Oper)(C:Nat->Nat->Bool)(order:List (Nat×Bool))(k i:Nat):Bool:=(order.take k).all fun x=>qAt ops x.1||C x.1 i
def phOk(ops:Array Oper)(hl:List Nat)(C:Nat->Nat->Bool)(order:List (Nat×Bool)):Bool:=
 (List.range order.length).all fun k=>match order[k]? with
  |some x=>(!x.2||phk ops C order k x.1)&&(qAt ops x.1||hl.all fun i=>!C x.1 i||phk ops C order k i)
  |none=>false
def headsOf(ws:List Way):List Nat:=ws.map fun w=>(w.path.head?.map (·.1)).getD 0
mutual
def wayOk(P:Program)(pu:List Nat)(ops:Array Oper)(B hl:List Nat):Way->List (Nat×Bool)->Array Bool->Bool
 |.mk path ws,order,listed=>(match path with
   |[]=>false
   |x::rest=>(match ops[x.1]? with |some o=>!isQ o.op |none=>false)&&stepsOk P pu ops B rest (listed.setIfInBounds x.1 true)) &&
   grpOk ops (none,path)&&Nat.ble (order.length+path.length) ops.size&&phOk ops hl (CC B hl) (order++path) &&
   Region.ready .any ops (listAll path listed)==headsOf ws&&(!ws.isEmpty||order.length+path.length==ops.size)&&waysOk P pu ops B hl ws (order++path) (listAll path listed)
def waysOk(P:Program)(pu:List Nat)(ops:Array Oper)(B hl:List Nat):List Way->List (Nat×Bool)->Array Bool->Bool
 |[],_,_=>true
 |w::r,order,listed=>wayOk P pu ops B hl w order listed&&waysOk P pu ops B hl r order listed
end
def okPlan(P:Program)(ops:Array Oper)(draw:Bool)(p:Plan):Bool:=
 let order:=p.groups.flatMap (·.2)
 p.groups.all (grpOk ops) &&
 match draw with
 |false=>order==(List.range ops.size).map (fun i=>(i,false))&&p.alts.isEmpty
 |true=>
  let B:=bef .any ops
  let listed:=listAll order (Array.replicate ops.size false)
  stepsOk P p.pure ops B order (Array.replicate ops.size false)&&phOk ops (heldOf p) (CC B (heldOf p)) order&&Region.noSelect ops&&Region.ready .any ops listed==headsOf p.alts &&
   (if p.alts.isEmpty then order.length==ops.size else waysOk P p.pure ops B (heldOf p) p.alts order listed)
abbrev Plans:=List (Nat×Plan)
def plAt:Plans->Nat->Option Plan
 |[],_=>none
 |x::r,id=>if x.1=id then some x.2 else plAt r id
def rangeIt(n:Nat):List (Nat×Bool):=(List.range n).map fun i=>(i,false)
def okRegion(P:Program)(pl:Plans)(id:Nat)(ops:Array Oper)(draw:Bool):Bool:=
 match plAt pl id with
 |some p=>okPlan P ops draw p
 |none=>!draw&&grpOk ops (none,rangeIt ops.size)
def okCode(P:Program)(pl:Plans):Code->Bool
 |.region id ops draw=>okRegion P pl id ops draw
 |.seq a b |.cond _ a b=>okCode P pl a&&okCode P pl b
 |.block _ c |.loop c |.scope c=>okCode P pl c
 |_=>true
def hok(held:Bool)(Hd:Nat->Prop)(d:Option Nat)(k:Prop):Prop:=
 match held with
 |false=>k
 |true=>(match d with |some id=>Hd id |none=>False)/\k
def aStep(P:Program)(N:Nat)(W Hd:Nat->Prop)(QP:List ADef->AV->AH->Prop)(held:Bool)(o:Oper)(K:St->AH->Prop)(s:St)(h:AH):Prop:=
 match isQ o.op with
 |true=>qOp P o.op (aev s) h fun v d=>hok held Hd d (K (s.put N o.dst v) h)
 |false=>eOp P W o.op (aev s) s.ds h (fun v ds' h'=>K (({ s with ds:=ds' }:St).put N o.dst v) h') (QP s.ds)
def evI(P:Program)(N:Nat)(W:Nat->Nat->Prop)(Hd:Nat->Nat->Prop)(QP:List ADef->AV->AH->Prop)(ops:Array Oper):List (Nat×Bool)->(St->AH->Prop)->St->AH->Prop
 |[],K,s,h=>K s h
 |x::rest,K,s,h=>match ops[x.1]? with
  |some o=>aStep P N (W x.1) (Hd x.1) QP x.2 o (evI P N W Hd QP ops rest K) s h
  |none=>False
def skI(N:Nat)(ops:Array Oper):List (Nat×Bool)->St->St
 |[],s=>s
 |x::rest,s=>skI N ops rest (s.put N (slotOf ops x.1) noA)
def aIf(x:AV)(a b:Prop):Prop:=
 match x with
 |.sc (.bool t)=>(t=true->a)/\(t=false->b)
 |_=>False
def aIg(want:Bool)(x:AV)(a b:Prop):Prop:=
 match x with
 |.sc (.bool t)=>(t=want->a)/\(t=(!want)->b)
 |.sc (.tuple _)=>b
 |_=>False
def evG(P:Program)(N:Nat)(W:Nat->Nat->Prop)(Hd:Nat->Nat->Prop)(QP:List ADef->AV->AH->Prop)(ops:Array Oper):List (Option (Nat×Bool)×List (Nat×Bool))->(St->AH->Prop)->St->AH->Prop
 |[],K,s,h=>K s h
 |(none,is)::rest,K,s,h=>evI P N W Hd QP ops is (evG P N W Hd QP ops rest K) s h
 |(some (j,want),is)::rest,K,s,h=>match slotOf ops j with
  |some d=>aIg want (s.tm d) (evI P N W Hd QP ops is (evG P N W Hd QP ops rest K) s h) (evG P N W Hd QP ops rest K (skI N ops is s) h)
  |none=>False
def nobody:Nat->Nat->Prop:=fun _ _=>False
mutual
def evW(P:Program)(N:Nat)(W:Nat->Nat->Prop)(Hd:Nat->Nat->Prop)(QP:List ADef->AV->AH->Prop)(ops:Array Oper):Way->(St->AH->Prop)->St->AH->Prop
 |.mk path ws,K,s,h=>evI P N W Hd QP ops path (match ws with
   |[]=>K
   |_::_=>fun s h=>evWs P N W Hd QP ops ws K s h) s h
def evWs(P:Program)(N:Nat)(W:Nat->Nat->Prop)(Hd:Nat->Nat->Prop)(QP:List ADef->AV->AH->Prop)(ops:Array Oper):List Way->(St->AH->Prop)->St->AH->Prop
 |[],_,_,_=>True
 |w::r,K,s,h=>evW P N W Hd QP ops w K s h/\evWs P N W Hd QP ops r K s h
end
def evP(P:Program)(N:Nat)(W:Nat->Nat->Prop)(Hd:Nat->Nat->Prop)(QP:List ADef->AV->AH->Prop)(ops:Array Oper)(p:Plan)(K:St->AH->Prop)(s:St)(h:AH):Prop:=
 match p.alts with
 |[]=>evG P N W Hd QP ops p.groups K s h
 |alts=>evG P N W Hd QP ops p.groups (evWs P N W Hd QP ops alts K) s h
abbrev noW:Nat->Prop:=fun _=>False
def puW(pu:List Nat)(W:Nat->Nat->Prop)(j:Nat):Nat->Prop:=match pu.contains j with
 |true=>noW
 |false=>W j
abbrev banL(W:Nat->Prop)(Hd:Nat->Nat)(l:List Nat):Nat->Prop:=fun id=>W id/\∀i∈l,id≠Hd i
def banO(W:Nat->Prop)(Hd:Nat->Nat):List Nat->Nat->Prop
 |[]=>W
 |i::l=>banL W Hd (i::l)
theorem banO_to{W:Nat->Prop}{Hd:Nat->Nat}:∀{l:List Nat}{id:Nat},banO W Hd l id->W id/\∀i∈l,id≠Hd i
 |[],_,h=>⟨h,fun _ h=>by simp at h⟩
 |_::_,_,h=>h
def banW(W:Nat->Prop)(Hd:Nat->Nat)(B hl:List Nat)(j:Nat):Nat->Prop:=banO W Hd (hl.filter fun i=>!(B.getD j 0).testBit i)
def aRegion(P:Program)(N:Nat)(W:Nat->Prop)(QP:List ADef->AV->AH->Prop)(pl:Plans)(id:Nat)(ops:Array Oper)(K:St->AH->Prop)(s:St)(h:AH):Prop:=
 match plAt pl id with
 |none=>evI P N (fun _=>W) nobody QP ops (rangeIt ops.size) K s h
 |some p=>match p.held with
  |false=>evP P N (puW p.pure fun _=>W) nobody QP ops p K s h
  |true=>∃Hd:Nat->Nat,(∀i∈heldOf p,h.obj (Hd i)≠none)/\evP P N (puW p.pure (banW W Hd (bef .any ops) (heldOf p))) (fun i id=>id=Hd i) QP ops p K s h
def HeldW(Hd:Nat->Prop)(E0:Env)(h0:AH)(w0 w:World):Prop:=∀id B,Hd id->h0.obj id≠none->E0 id=some B->w.heap[B.b]?=w0.heap[B.b]?
def TT(P:Program)(S:World->Prop)(o:Oper)(held:Bool)(w0:World):World->Prop:=fun w=>isLoad P o.op=true->if held then S w else Ext w0 w
structure Drv (P:Program) (ops:Array Oper) (Q:Exit->Act->World->Prop) (C:Nat->Nat->Bool) (S:Nat->World->Prop) (pu:Nat->Bool) (order:List (Nat×Bool)) (k1:Nat) (D:Nat->Act->World->Prop):Prop where
 quiet:∀k i held o v a w,k1<=k->order[k]?=some (i,held)->ops[i]?=some o->isQ o.op=true->Yq P ops (TT P (S i) o held w) o v a->(held=true->S i w)->D (k+1) (a.put o.dst v) w->D k a w
 eff:∀k i held o a w,k1<=k->order[k]?=some (i,held)->ops[i]?=some o->isQ o.op=false->wpOp P ops Q i (fun a' w'=>((∀l,C i l=true->S l w')/\(isA o.op=true\/pu i=true->Ext w w'))/\D (k+1) a' w') a w->D k a w
section
variable {N:Nat} {W:Nat->Prop} {QP:List ADef->AV->AH->Prop} {ops:Array Oper} {Q:Exit->Act->World->Prop} {order:List (Nat×Bool)} {D:Nat->Act->World->Prop}
 {E0:Env} {h0:AH} {w0:World}
def boolOf:Value->Option Bool
 |.bool b=>some b
 |_=>none
def GInv(ops:Array Oper)(g:Option (Nat×Bool))(yes:Bool)(s:St):Prop:=
 match g with
 |none=>yes=true
 |some (j,want)=>∃d,slotOf ops j=some d/\(s.tm d=.sc (.bool (if yes then want else !want))\/yes=false/\∃l,s.tm d=.sc (.tuple l))
theorem wanted_of{g:Option (Nat×Bool)}{yes:Bool}{s:St}{a:Act}{E:Env}(hg:GInv ops g yes s)(ha:AR E N s a){o:Oper}(ho:o.guard=g):Region.wanted o (yielded ops a.tmps)=yes:=by
 unfold Region.wanted
 rw[ho]
 cases g with
 |none=>exact hg.symm
 |some g=>
  obtain⟨j,want⟩:=g
  obtain⟨d,hd,hs⟩:=hg
  have h1:=ha.tm d
  unfold slotOf at hd
  have hy:yielded ops a.tmps j=boolOf (a.tmps.getD d undef):=by
   unfold yielded
   simp only[hd]
   rw[Array.getD_eq_getD_getElem?]
   show(match a.tmps[d]? with |some (.bool b)=>some b |_=>none)=_
   generalize a.tmps[d]?=y
   cases y with
   |none=>rfl
   |some v=>cases v<;>rfl
  show(yielded ops a.tmps j==some want)=yes
  rw[hy]
  rcases hs with hs |⟨hyes,l,hs⟩
  ·rw[hs]at h1
   have h2:a.tmps.getD d undef=.bool (if yes then want else !want):=by
    generalize a.tmps.getD d undef=v at h1
    cases h1;rfl
   rw[h2]
   cases yes<;>cases want<;>rfl
  ·rw[hs]at h1
   have h2:a.tmps.getD d undef=.tuple l:=by
    generalize a.tmps.getD d undef=v at h1
    cases h1;rfl
   rw[h2,hyes];rfl
def GDst(ops:Array Oper)(g:Option (Nat×Bool))(dst:Option Nat):Prop:=∀j want d,g=some (j,want)->slotOf ops j=some d->dst≠some d
theorem GInv.put{g:Option (Nat×Bool)}{yes:Bool}{s:St}(hg:GInv ops g yes s){dst:Option Nat}(hd:GDst ops g dst)(v:AV)(ds:List ADef) :
  GInv ops g yes (({ s with ds:=ds }:St).put N dst v):=by
 cases g with
 |none=>exact hg
 |some g=>
  obtain⟨j,want⟩:=g
  obtain⟨d,h1,h2⟩:=hg
  refine⟨d,h1,?_⟩
  have h3:=hd j want d rfl h1
  have h2':∀(P:AV->Prop),P (s.tm d)->P (({ s with ds:=ds }:St).put N dst v |>.tm d):=by
   intro P hP
   cases dst with
   |none=>exact hP
   |some e=>
    simp only[St.put]
    split
    ·simp only[upd]
     rw[zW (fun h=>h3 (by rw[h]))]
     exact hP
    ·exact hP
  exact h2' (fun x=>x=.sc (.bool (if yes then want else !want))\/yes=false/\∃l,x=.sc (.tuple l)) h2
theorem AR.ds'{E:Env}{s:St}{a:Act}(h:AR E N s a):({ s with ds:=s.ds }:St)=s:=rfl
end
end
section
variable {P:Program} {N:Nat} {W:Nat->Prop} {Hd:Nat->Nat->Prop} {QP:List ADef->AV->AH->Prop} {ops:Array Oper} {Q:Exit->Act->World->Prop} {order:List (Nat×Bool)} {D:Nat->Act->World->Prop}
 {E0:Env} {h0:AH} {w0:World}
structure Ctx (P:Program) (N:Nat) (ops:Array Oper) (hl:List Nat) (C:Nat->Nat->Bool) (pu:Nat->Bool) (order:List (Nat×Bool)) (W:Nat->Prop) (Wf:Nat->Nat->Prop) (Hd:Nat->Nat->Prop) (QP:List ADef->AV->AH->Prop) (Q:Exit->Act->World->Prop) (E0:Env) (h0:AH) (w0:World):Prop where
 rel:Rel E0 h0 w0
 hd:∀i id,hl.contains i=true->Hd i id->h0.obj id≠none
 w:∀j i id,C j i=true->Hd i id->¬Wf j id
 wf:∀j id,Wf j id->W id
 pw:∀j id,pu j=true->¬Wf j id
 hc:∀j i,C j i=true->hl.contains i=true
 hh:∀(k:Nat)(x:Nat×Bool),order[k]?=some x->x.2=true->hl.contains x.1=true
 ord:phOk ops hl C order=true
 pan:∀v E' h' w' u a ds,Step E0 h0 W w0 E' h' w'->VR E' v u->DRs E' ds a.defers->QP ds v h'->Q (.panic [{ v:=u,recovered:=false }]) a w'
theorem phk_succ{C:Nat->Nat->Bool}{k i:Nat}{x:Nat×Bool}(hk:order[k]?=some x):phk ops C order (k+1) i=(phk ops C order k i&&(qAt ops x.1||C x.1 i)):=by
 unfold phk
 rw[List.take_add_one,hk]
 simp
theorem phOk_at{hl:List Nat}{C:Nat->Nat->Bool}(h:phOk ops hl C order=true){k:Nat}{x:Nat×Bool}(hk:order[k]?=some x){o:Oper}(ho:ops[x.1]?=some o) :
  (x.2=true->phk ops C order k x.1=true)/\(isQ o.op=false->∀i,hl.contains i=true->C x.1 i=true->phk ops C order k i=true):=by
 unfold phOk at h
 rw[List.all_eq_true]at h
 have:=h k (List.mem_range.2 (zM.1 hk).1)
 rw[hk]at this
 simp only[yC,Bool.or_eq_true,Bool.not_eq_true',List.all_eq_true]at this
 refine⟨fun hx=>?_,fun hq i hi hc=>?_⟩
 ·rcases this.1 with h1 |h1
  ·rw[hx]at h1;cases h1
  ·exact h1
 ·rcases this.2 with h1 |h1
  ·unfold qAt at h1;rw[ho]at h1;simp only at h1;rw[hq]at h1;cases h1
  ·rcases h1 i (by simpa using hi) with h2 |h2
   ·rw[hc]at h2;cases h2
   ·exact h2
def HI(ops:Array Oper)(hl:List Nat)(C:Nat->Nat->Bool)(order:List (Nat×Bool))(Hd:Nat->Nat->Prop)(E0:Env)(h0:AH)(w0:World)(k:Nat)(h:AH)(w:World):Prop:=
 ∀i,hl.contains i=true->phk ops C order k i=true->∀id,Hd i id->h.obj id=h0.obj id/\∀B,E0 id=some B->w.heap[B.b]?=w0.heap[B.b]?
theorem HI.start{hl:List Nat}{C:Nat->Nat->Bool}{k:Nat}:HI ops hl C order Hd E0 h0 w0 k h0 w0:=fun _ _ _ _ _=>⟨rfl,fun _ _=>rfl⟩
theorem HI.next{hl:List Nat}{C:Nat->Nat->Bool}{k:Nat}{h:AH}{w:World}(hi:HI ops hl C order Hd E0 h0 w0 k h w){x:Nat×Bool}(hk:order[k]?=some x):HI ops hl C order Hd E0 h0 w0 (k+1) h w:=fun i h1 h2=>by
 rw[phk_succ hk,yC]at h2
 exact hi i h1 h2.1
theorem HI.held{hl:List Nat}{C:Nat->Nat->Bool}{k:Nat}{h:AH}{w:World}(hi:HI ops hl C order Hd E0 h0 w0 k h w){i:Nat}(h1:hl.contains i=true)(h2:phk ops C order k i=true):HeldW (Hd i) E0 h0 w0 w:=fun id B h3 _ h5=>(hi i h1 h2 id h3).2 B h5
theorem HI.eff{hl:List Nat}{C:Nat->Nat->Bool}{pu:Nat->Bool}{Wf:Nat->Nat->Prop}(cx:Ctx P N ops hl C pu order W Wf Hd QP Q E0 h0 w0){k:Nat}{E E':Env}{h h':AH}{w w':World}(hi:HI ops hl C order Hd E0 h0 w0 k h w)(hs:Step E0 h0 W w0 E h w){x:Nat×Bool}(hk:order[k]?=some x)(hq:qAt ops x.1=false)
  (h1:Step E h (Wf x.1) w E' h' w'):HI ops hl C order Hd E0 h0 w0 (k+1) h' w':=by
 intro i hc hp id hd
 rw[phk_succ hk,yC,hq,Bool.false_or]at hp
 obtain⟨e1,e2⟩:=hi i hc hp.1 id hd
 have hne:=cx.hd i id hc hd
 have hnw:=cx.w x.1 i id hp.2 hd
 have hne':h.obj id≠none:=by rw[e1];exact hne
 refine⟨by rw[h1.keep id (AH.lt' hne') hnw,e1],fun B hB=>?_⟩
 have hB':=hs.env id B hB
 cases ho:h.obj id with
 |none=>exact absurd ho hne'
 |some o=>
  obtain⟨B2,hB2,hO⟩:=hs.rel.obj id o ho
  rw[hB']at hB2;cases hB2
  rw[<-e2 B hB]
  refine h1.frame B.b hO.lt ?_
  intro id' B' o' hw' ho' hro' hE' hbb
  rcases hs.rel.inj id' id o' o B' B ho' ho hE' hB' hbb with this |this
  ·subst this
   exact hnw hw'
  ·rw[hro']at this;cases this.1
theorem qOp_obj{op:Op}{ρ:Operand->AV}{h:AH}{K:AV->Option Nat->Prop}(hp:qOp P op ρ h K):qOp P op ρ h (fun v d=>K v d/\∀id,d=some id->h.obj id≠none):=by
 cases hl:isLoad P op with
 |false=>exact qOp_mono (fun v d h1 h2=>⟨h2,fun id e=>by rw[h1 hl]at e;cases e⟩) hp
 |true=>
  cases op<;>simp only[isLoad,zE]at hl
  case convert s d x=>
   simp only[qOp,hl]at hp ⊢
   unfold pB2S at hp ⊢
   split at hp
   ·obtain⟨o,l,⟨h1,h2,h3⟩,h4⟩:=hp
    exact⟨o,l,⟨h1,h2,h3⟩,h4,fun id e=>by cases e;rw[h1];simp⟩
   ·exact hp.elim
  case lookup t m x ok=>
   simp only[qOp]at hp ⊢
   unfold lLook at hp ⊢
   split at hp
   ·obtain⟨o,l,⟨h1,h2⟩,h3⟩:=hp
    exact⟨o,l,⟨h1,h2⟩,mRead_mono (fun v hv=>⟨hv,fun id e=>by cases e;rw[h1];simp⟩) h3⟩
   ·exact mRead_mono (fun v hv=>⟨hv,fun id e=>by cases e⟩) hp
   ·exact hp.elim
  simp only[qOp]at hp ⊢
  unfold lLd at hp ⊢
  split at hp
  ·obtain⟨o,c,⟨h1,h2,h3⟩,h4⟩:=hp
   exact⟨o,c,⟨h1,h2,h3⟩,h4,fun id e=>by cases e;rw[h1];simp⟩
  ·obtain⟨o,⟨h1,h2,h3⟩,h4⟩:=hp
   exact⟨o,⟨h1,h2,h3⟩,h4,fun id e=>by cases e;rw[h1];simp⟩
  ·exact hp.elim
theorem eOp_nobody{op:Op}(hA:isA op=true){ρ:Operand->AV}{ds:List ADef}{h:AH}{K:AV->List ADef->AH->Prop}{KP:AV->AH->Prop}(hp:eOp P W op ρ ds h K KP):eOp P (fun _=>False) op ρ ds h K KP:=by
 cases op<;>simp only[isA,zE]at hA<;>first |exact hp |(rename_i t r;cases r<;>first |exact hp |exact hp.elim)
theorem eOp_okA{E:Env}{w:World}{s:St}{a:Act}{h:AH}{K:AV->List ADef->AH->Prop}{KP:AV->AH->Prop}(o:Oper)(hr:Rel E h w)(ha:AR E N s a)
  (hp:eOp P W o.op (aev s) s.ds h K KP) {next:Act->World->Prop} {Q:Exit->Act->World->Prop}
  (hn:∀v ds' E' h' w' a',Step E h W w E' h' w'->(isA o.op=true\/(∀id,¬W id)->Ext w w')->AR E' N (({ s with ds:=ds' }:St).put N o.dst v) a'->K v ds' h'->next a' w')
  (hq:∀v E' h' w' u,Step E h W w E' h' w'->VR E' v u->KP v h'->Q (.panic [{ v:=u,recovered:=false }]) a w'):o.wp P a w next Q:=by
 by_cases hA:isA o.op=true
 ·refine eOp_ok o hr ha (eOp_nobody hA hp) ?_ ?_
  ·intro v ds' E' h' w' a' h1 h2 h3
   exact hn v ds' E' h' w' a' ((Step.refl hr).trans hr h1 (fun id _ hm=>hm.elim)) (fun _ b hb=>h1.frame b hb fun _ _ _ hm=>hm.elim) h2 h3
  ·intro v E' h' w' u h1 h2 h3
   exact hq v E' h' w' u ((Step.refl hr).trans hr h1 (fun id _ hm=>hm.elim)) h2 h3
 ·exact eOp_ok o hr ha hp (fun v ds' E' h' w' a' h1 h2 h3=>hn v ds' E' h' w' a' h1 (fun h=>h.elim (fun h=>absurd h hA) fun hn b hb=>h1.frame b hb fun id _ _ hm=>absurd hm (hn id)) h2 h3) hq
theorem evI_ok{hl:List Nat}{C:Nat->Nat->Bool}{pu:Nat->Bool}{Wf:Nat->Nat->Prop}(cx:Ctx P N ops hl C pu order W Wf Hd QP Q E0 h0 w0){k1:Nat}(dv:Drv P ops Q C (fun i=>HeldW (Hd i) E0 h0 w0) pu order k1 D)(g:Option (Nat×Bool)){K:St->AH->Prop} :
  ∀(is:List (Nat×Bool))(k:Nat)(s:St)(a:Act)(E:Env)(h:AH)(w:World),k1<=k->(∀m x,is[m]?=some x->order[k+m]?=some x)->grpOk ops (g,is)=true->GInv ops g true s ->
   Step E0 h0 W w0 E h w->HI ops hl C order Hd E0 h0 w0 k h w->AR E N s a->evI P N Wf Hd QP ops is K s h ->
   (∀s' a' E' h' w',Step E0 h0 W w0 E' h' w'->HI ops hl C order Hd E0 h0 w0 (k+is.length) h' w'->AR E' N s' a'->K s' h'->D (k+is.length) a' w')->D k a w
 |[],k,s,a,E,h,w,_,_,_,_,hs,hI,ha,he,hK=>hK s a E h w hs hI ha he
 |x::is,k,s,a,E,h,w,hk1,ho,hg,hi,hs,hI,ha,he,hK=>by
  obtain⟨i,held⟩:=x
  have hk:order[k]?=some (i,held):=by simpa using ho 0 (i,held) rfl
  simp only[evI]at he
  split at he
  ·rename_i o hop
   simp only[grpOk,List.all_cons,hop,yC]at hg
   obtain⟨⟨hg1,hg2⟩,hg3⟩:=hg
   have hgd:o.guard=g:=by simpa using hg1
   have hdst:GDst ops g o.dst:=by
    intro j want d hge hd
    subst hge
    simp only[hd]at hg2
    simpa using hg2
   have hwant:=wanted_of hi ha hgd
   have hrest:∀m x,is[m]?=some x->order[k+1+m]?=some x:=fun m x hm=>by
    have:=ho (m+1) x (by simpa using hm)
    rw[show k+1+m=k+(m+1) from by omega];exact this
   have hord:=phOk_at cx.ord hk hop
   have hSk:held=true->HeldW (Hd i) E0 h0 w0 w:=fun hp=>hI.held (cx.hh k _ hk hp) (hord.1 hp)
   have hIu:=hI.next hk
   have hKr:∀s' a' E' h' w',Step E0 h0 W w0 E' h' w'->HI ops hl C order Hd E0 h0 w0 (k+1+is.length) h' w'->AR E' N s' a'->K s' h'->D (k+1+is.length) a' w':=fun s' a' E' h' w' h1 hI1 h2 h3=>by
    rw[show k+1+is.length=k+(is.length+1) from by omega]at hI1 ⊢
    exact hK s' a' E' h' w' h1 hI1 h2 h3
   unfold aStep at he
   split at he
   ·rename_i hq
    have he':=qOp_mono (K':=fun v d=>(isLoad P o.op=false->d=none)/\hok held (Hd i) d (evI P N Wf Hd QP ops is K (s.put N o.dst v) h)/\∀id,d=some id->h.obj id≠none) (fun v d h1 h2=>⟨h1,h2⟩) (qOp_obj he)
    obtain⟨av,u,d,hv,⟨hd1,hd2,hd4⟩,hd3,hrun⟩:=qOp_ok o hs.rel ha he'
    have hkk:evI P N Wf Hd QP ops is K (s.put N o.dst av) h:=by
     unfold hok at hd2
     split at hd2
     ·exact hd2
     ·exact hd2.2
    refine dv.quiet k i held o u a w hk1 hk hop hq (.inl ⟨hwant,fun w' hw'=>hrun w' ?_⟩) hSk ?_
    ·intro id B hde hB
     cases hl:isLoad P o.op with
     |false=>rw[hd1 hl]at hde;cases hde
     |true=>
      cases held with
      |false=>
       have hw':Ext w w':=by simpa using hw' hl
       have hob:=hd4 id hde
       cases ho:h.obj id with
       |none=>exact absurd ho hob
       |some o2=>
        obtain⟨B2,hB2,hO2⟩:=hs.rel.obj id o2 ho
        rw[hB]at hB2;cases hB2
        exact hw' B.b hO2.lt
      |true=>
       have hS:=hSk rfl
       have hw':HeldW (Hd i) E0 h0 w0 w':=by simpa using hw' hl
       simp only[hok,hde]at hd2
       have hob0:=cx.hd i id (cx.hh k _ hk rfl) hd2.1
       obtain⟨B0,hB0⟩:=cx.rel.env_of hob0
       have:=hs.env id B0 hB0
       rw[hB]at this;cases this
       rw[hw' id B hd2.1 hob0 hB0,hS id B hd2.1 hob0 hB0]
    ·exact evI_ok cx dv g is (k+1) _ _ E h w (by omega) hrest hg3 (by simpa using hi.put hdst av s.ds) hs hIu (ha.put _ hv) hkk hKr
   ·rename_i hq
    refine dv.eff k i held o a w hk1 hk hop hq ?_
    unfold wpOp
    simp only[hop,hwant,zV]
    have hq':isQ o.op=false:=by simpa using hq
    have hqa:qAt ops i=false:=by unfold qAt;rw[hop];exact hq'
    refine .inl (eOp_okA o hs.rel ha he ?_ ?_)
    ·intro v ds' E' h' w' a' h1 hA h2 h3
     have hs':=hs.trans cx.rel h1 (fun id _ hm=>.inl (cx.wf i id hm))
     have hI':=HI.eff cx hI hs hk hqa h1
     refine⟨⟨fun l hc=>?_,fun hh=>hA (hh.imp (fun h=>h) fun hp id hw=>cx.pw i id hp hw)⟩,evI_ok cx dv g is (k+1) _ _ E' h' w' (by omega) hrest hg3 (hi.put hdst v ds') hs' hI' h2 h3 hKr⟩
     have hcl:=cx.hc i l hc
     exact hI'.held hcl (by rw[phk_succ hk,hord.2 hq' l hcl hc,hc,Bool.or_true];rfl)
    ·intro v E' h' w' u h1 h2 h3
     exact cx.pan v E' h' w' u a s.ds (hs.trans cx.rel h1 (fun id _ hm=>.inl (cx.wf i id hm))) h2 (ha.ds.mono h1.env) h3
  ·exact he.elim
theorem skI_ok{hl:List Nat}{C:Nat->Nat->Bool}{pu:Nat->Bool}{Wf:Nat->Nat->Prop}(cx:Ctx P N ops hl C pu order W Wf Hd QP Q E0 h0 w0){k1:Nat}(dv:Drv P ops Q C (fun i=>HeldW (Hd i) E0 h0 w0) pu order k1 D)(g:Option (Nat×Bool)) :
  ∀(is:List (Nat×Bool))(k:Nat)(s:St)(a:Act)(E:Env)(h:AH)(w:World),k1<=k->(∀m x,is[m]?=some x->order[k+m]?=some x)->grpOk ops (g,is)=true->GInv ops g false s ->
   Step E0 h0 W w0 E h w->HI ops hl C order Hd E0 h0 w0 k h w->AR E N s a ->
   (∀a',Step E0 h0 W w0 E h w->HI ops hl C order Hd E0 h0 w0 (k+is.length) h w->AR E N (skI N ops is s) a'->D (k+is.length) a' w)->D k a w
 |[],k,s,a,E,h,w,_,_,_,_,hs,hI,ha,hK=>hK a hs hI ha
 |x::is,k,s,a,E,h,w,hk1,ho,hg,hi,hs,hI,ha,hK=>by
  obtain⟨i,held⟩:=x
  have hk:order[k]?=some (i,held):=by simpa using ho 0 (i,held) rfl
  have hop':∃o,ops[i]?=some o:=by
   simp only[grpOk,List.all_cons,yC]at hg
   cases h:ops[i]? with
   |none=>rw[h]at hg;simp at hg
   |some o=>exact⟨o,rfl⟩
  obtain⟨o,hop⟩:=hop'
  simp only[grpOk,List.all_cons,hop,yC]at hg
  obtain⟨⟨hg1,hg2⟩,hg3⟩:=hg
  have hgd:o.guard=g:=by simpa using hg1
  have hdst:GDst ops g o.dst:=by
   intro j want d hge hd
   subst hge
   simp only[hd]at hg2
   simpa using hg2
  have hwant:=wanted_of hi ha hgd
  have hrest:∀m x,is[m]?=some x->order[k+1+m]?=some x:=fun m x hm=>by
   have:=ho (m+1) x (by simpa using hm)
   rw[show k+1+m=k+(m+1) from by omega];exact this
  have hord:=phOk_at cx.ord hk hop
  have hSk:held=true->HeldW (Hd i) E0 h0 w0 w:=fun hp=>hI.held (cx.hh k _ hk hp) (hord.1 hp)
  have hIu:=hI.next hk
  have hslot:slotOf ops i=o.dst:=by simp[slotOf,hop]
  have next:D (k+1) (a.put o.dst undef) w:=by
   refine skI_ok cx dv g is (k+1) (s.put N o.dst noA) _ E h w (by omega) hrest hg3 (by simpa using hi.put hdst noA s.ds) hs hIu (ha.put _ (.sc _)) ?_
   intro a' hs2 hI2 ha'
   rw[show k+1+is.length=k+(is.length+1) from by omega]at hI2 ⊢
   exact hK a' hs2 hI2 (by simp only[skI,hslot];exact ha')
  by_cases hq:isQ o.op=true
  ·exact dv.quiet k i held o undef a w hk1 hk hop hq (.inr ⟨hwant,rfl⟩) hSk next
  ·refine dv.eff k i held o a w hk1 hk hop (by simpa using hq) ?_
   unfold wpOp
   simp only[hop,hwant,zE,if_false]
   exact⟨⟨fun l hc=>hI.held (cx.hc i l hc) (hord.2 (by simpa using hq) l (cx.hc i l hc) hc),fun _=>Ext.refl⟩,next⟩
theorem evG_ok{hl:List Nat}{C:Nat->Nat->Bool}{pu:Nat->Bool}{Wf:Nat->Nat->Prop}(cx:Ctx P N ops hl C pu order W Wf Hd QP Q E0 h0 w0){k1:Nat}(dv:Drv P ops Q C (fun i=>HeldW (Hd i) E0 h0 w0) pu order k1 D){K:St->AH->Prop}
  (hfin:∀s' a' E' h' w',Step E0 h0 W w0 E' h' w'->HI ops hl C order Hd E0 h0 w0 order.length h' w'->AR E' N s' a'->K s' h'->D order.length a' w') :
  ∀(gs:List (Option (Nat×Bool)×List (Nat×Bool)))(k:Nat)(s:St)(a:Act)(E:Env)(h:AH)(w:World),k1<=k->(∀m,(gs.flatMap (·.2))[m]?=order[k+m]?)->k+(gs.flatMap (·.2)).length=order.length->gs.all (grpOk ops)=true ->
   Step E0 h0 W w0 E h w->HI ops hl C order Hd E0 h0 w0 k h w->AR E N s a->evG P N Wf Hd QP ops gs K s h->D k a w
 |[],k,s,a,E,h,w,_,ho,hln,_,hs,hI,ha,he=>by
  have:k=order.length:=by simpa using hln
  rw[this]at hI ⊢
  exact hfin s a E h w hs hI ha he
 |(g,is)::gs,k,s,a,E,h,w,hk1,ho,hln,hg,hs,hI,ha,he=>by
  simp only[List.flatMap_cons,List.length_append]at hln
  simp only[List.all_cons,yC]at hg
  obtain⟨hg1,hg2⟩:=hg
  have hpre:∀m x,is[m]?=some x->order[k+m]?=some x:=by
   intro m x hm
   rw[<-ho m]
   simp only[List.flatMap_cons]
   rw[List.getElem?_append_left (zM.1 hm).1]
   exact hm
  have hpost:∀m,(gs.flatMap (·.2))[m]?=order[k+is.length+m]?:=by
   intro m
   have:=ho (is.length+m)
   simp only[List.flatMap_cons]at this
   rw[List.getElem?_append_right (by omega),Nat.add_sub_cancel_left]at this
   rw[this,Nat.add_assoc]
  have rest:∀s' a' E' h' w',Step E0 h0 W w0 E' h' w'->HI ops hl C order Hd E0 h0 w0 (k+is.length) h' w'->AR E' N s' a'->evG P N Wf Hd QP ops gs K s' h'->D (k+is.length) a' w':=
   fun s' a' E' h' w' h1 hI1 h2 h3=>evG_ok cx dv hfin gs (k+is.length) s' a' E' h' w' (by omega) hpost (by omega) hg2 h1 hI1 h2 h3
  have yes:GInv ops g true s->evI P N Wf Hd QP ops is (evG P N Wf Hd QP ops gs K) s h->D k a w:=fun hi he=>evI_ok cx dv g is k s a E h w hk1 hpre hg1 hi hs hI ha he rest
  have no:GInv ops g false s->evG P N Wf Hd QP ops gs K (skI N ops is s) h->D k a w:=fun hi he=>skI_ok cx dv g is k s a E h w hk1 hpre hg1 hi hs hI ha fun a' hs2 hI2 ha'=>rest _ a' E h w hs2 hI2 ha' he
  cases g with
  |none=>exact yes rfl he
  |some g=>
   obtain⟨j,want⟩:=g
   simp only[evG]at he
   split at he
   ·rename_i d hd
    unfold aIg at he
    split at he
    ·rename_i t ht
     by_cases hw:t=want
     ·exact yes ⟨d,hd,.inl (by simpa[<-hw] using ht)⟩ (he.1 hw)
     ·have hw':t=!want:=by cases t<;>cases want<;>simp_all
      exact no ⟨d,hd,.inl (by simpa[<-hw'] using ht)⟩ (he.2 hw')
    ·rename_i l ht
     exact no ⟨d,hd,.inr ⟨rfl,l,ht⟩⟩ he
    ·exact he.elim
   ·exact he.elim
end
section
variable {P:Program} {N:Nat} {W:Nat->Prop} {QP:List ADef->AV->AH->Prop} {ops:Array Oper} {Q:Exit->Act->World->Prop}
theorem drop_cons{order:List (Nat×Bool)}{k:Nat}{x:Nat×Bool}(hk:order[k]?=some x):order.drop k=x::order.drop (k+1):=by
 have hlt:=(zM.1 hk).1
 rw[List.drop_eq_getElem_cons hlt];congr 1
 rw[zJ hlt]at hk;exact Option.some.inj hk
theorem drv_plain{C:Nat->Nat->Bool}{S:Nat->World->Prop}{pu:Nat->Bool}(order:List (Nat×Bool)):Drv P ops Q C S pu order 0 (fun k a w=>wpOps P ops Q ((order.drop k).map (·.1)) a w) where
 quiet k i held o v a w _ hk hop hq hy hS hD:=by
  show wpOps P ops Q ((order.drop k).map (·.1)) a w
  rw[drop_cons hk,List.map_cons,wpOps_cons]
  exact Yq.wpOp hop hy (fun _=>by split;exact hS ‹_›;exact Ext.refl) hD
 eff k i held o a w _ hk hop hq hw:=by
  show wpOps P ops Q ((order.drop k).map (·.1)) a w
  rw[drop_cons hk,List.map_cons,wpOps_cons]
  exact wpOp_mono (fun a' w' h=>h.2) hw
def listedAt(n:Nat)(order:List (Nat×Bool))(k:Nat):Array Bool:=listAll (order.take k) (Array.replicate n false)
theorem listedAt_succ{n:Nat}{order:List (Nat×Bool)}{k:Nat}{x:Nat×Bool}(hk:order[k]?=some x):listedAt n order (k+1)=(listedAt n order k).setIfInBounds x.1 true:=by
 unfold listedAt listAll
 rw[List.take_add_one,hk]
 simp
theorem stepsOk_at{pu B:List Nat}:∀(order:List (Nat×Bool))(listed:Array Bool),stepsOk P pu ops B order listed=true->∀k x,order[k]?=some x->stepOk P pu ops B (listAll (order.take k) listed) x=true
 |[],listed,h,k,x,hk=>by simp at hk
 |y::order,listed,h,k,x,hk=>by
  simp only[stepsOk,yC]at h
  cases k with
  |zero=>simp at hk;subst hk;simpa[listAll] using h.1
  |succ k=>simpa[listAll] using stepsOk_at order _ h.2 k x (by simpa using hk)
theorem mem_ready_of{listed:Array Bool}{i:Nat}{pu B:List Nat}{x:Nat×Bool}(h:stepOk P pu ops B listed x=true)(hi:x.1=i):i∈Region.ready .any ops listed:=by
 subst hi
 unfold stepOk at h
 split at h
 ·cases h
 ·split at h
  ·simp only[yC,List.contains_iff_mem]at h;exact h.1
  ·simp only[beq_iff_eq]at h;rw[h];simp
theorem closed_from{pu B:List Nat}{order:List (Nat×Bool)}{k1:Nat}(hst:∀k x,k1<=k->order[k]?=some x->stepOk P pu ops B (listedAt ops.size order k) x=true)(hcl:Closed .any ops (listedAt ops.size order k1)) :
  ∀m,Closed .any ops (listedAt ops.size order (k1+m))
 |0=>hcl
 |m+1=>by
  cases hk:order[k1+m]? with
  |none=>
   have:listedAt ops.size order (k1+(m+1))=listedAt ops.size order (k1+m):=by
    unfold listedAt;rw[<-Nat.add_assoc,List.take_add_one,hk];simp
   rw[this];exact closed_from hst hcl m
  |some x=>
   rw[<-Nat.add_assoc,listedAt_succ hk]
   exact(closed_from hst hcl m).set (mem_ready_of (hst _ x (by omega) hk) rfl)
theorem closed_zero(order:List (Nat×Bool)):Closed .any ops (listedAt ops.size order 0):=by
 intro j o hj
 simp only[listedAt,listAll,List.take_zero,List.foldl_nil]at hj
 rw[Array.getD_eq_getD_getElem?]at hj
 simp only[Array.getElem?_replicate]at hj
 split at hj<;>cases hj
theorem drv_draw{hl pu:List Nat}{S:Nat->World->Prop}(hSh:∀l w w',S l w->w'.heap=w.heap->S l w')(hQ:∀dst v c a w,Q (.panic c) (Act.put a dst v) w->Q (.panic c) a w){order:List (Nat×Bool)}{k1:Nat}
  (hsel:Region.noSelect ops=true) (hh:∀(k:Nat)(x:Nat×Bool),order[k]?=some x->x.2=true->hl.contains x.1=true) (hst:∀k x,k1<=k->order[k]?=some x->stepOk P pu ops (bef .any ops) (listedAt ops.size order k) x=true) (hcl:Closed .any ops (listedAt ops.size order k1)) (hlen:order.length<=ops.size) :
  Drv P ops Q (CC (bef .any ops) hl) S (fun i=>pu.contains i) order k1 (fun k a w=>wpAnyR P .any ops Q (CC (bef .any ops) hl) S (fun i=>pu.contains i) (ops.size-k) (listedAt ops.size order k) a w) where
 quiet k i held o v a w hk1 hk hop hq hy hS hD:=by
  have hlt:=(zM.1 hk).1
  have hst:=hst k _ hk1 hk
  have hmem:=mem_ready_of hst rfl
  have hn:ops.size-k=(ops.size-(k+1))+1:=by omega
  have hcl':Closed .any ops (listedAt ops.size order k):=by
   have:=closed_from (P:=P) (pu:=pu) (ops:=ops) (B:=bef .any ops) (order:=order) (k1:=k1) (by assumption) hcl (k-k1)
   rwa [show k1+(k-k1)=k from by omega]at this
  simp only[hn]
  refine first_any hop hq (Region.noSelect_spec hsel) (fun c a w=>hQ _ _ c a w) _ _ a w hcl' ?_ hmem hy (fun _=>by split;exact hS ‹_›;exact Ext.refl) ?_
  ·intro j oj hoj hji hun hnt
   unfold stepOk at hst
   simp only[hop,hq,zV,yC,List.all_eq_true,List.mem_range]at hst
   have hjlt:j<ops.size:=(Array.getElem?_eq_some_iff.1 hoj).1
   have h2:=hst.2 j hjlt
   simp only[hoj,Bool.or_eq_true,beq_iff_eq]at h2
   rcases h2 with((h2 |h2) |h2) |h2
   ·exact absurd h2 hji
   ·rw[hun]at h2;cases h2
   ·exact absurd (bef_ok h2) hnt
   ·simp only[yC,Bool.or_eq_true]at h2
    refine⟨h2.1,fun w1 w2 hT hR hl=>?_⟩
    have hT:=hT hl
    unfold RR at hR
    cases held with
    |true=>
     simp only[zV]at hT ⊢
     split at hR
     ·exact hSh i w1 w2 hT hR
     ·rename_i hn
      rcases h2.2 with(h3 |h3) |h3
      ·simp[hl]at h3
      ·exact absurd h3 hn
      ·refine hR.1 i ?_
       unfold CC
       rw[hh k _ hk rfl,Bool.true_and,Bool.not_eq_true']
       cases hb:((bef .any ops).getD j 0).testBit i with
       |false=>rfl
       |true=>exact absurd (bef_ok hb) hnt
    |false=>
     simp only[zE,if_false]at hT ⊢
     split at hR
     ·exact hT.trans (.of_heap hR)
     ·rename_i hn
      rcases h2.2 with(h3 |h3) |h3
      ·simp[hl]at h3
      ·exact absurd h3 hn
      ·exact hT.trans (hR.2 (by simpa using h3))
  ·rw[<-listedAt_succ (x:=(i,held)) hk];exact hD
 eff k i held o a w hk1 hk hop hq hw:=by
  have hlt:=(zM.1 hk).1
  have hst:=hst k _ hk1 hk
  have hn:ops.size-k=(ops.size-(k+1))+1:=by omega
  simp only[hn]
  unfold stepOk at hst
  simp only[hop,hq,zE,if_false,beq_iff_eq]at hst
  have hst':Region.ready .any ops (listedAt ops.size order k)=[i]:=hst
  refine⟨fun h=>(by rw[hst']at h;cases h),fun j hj=>?_⟩
  rw[hst']at hj
  have:j=i:=by simpa using hj
  subst this
  refine wpOp_mono (fun a' w' h=>⟨fun o' ho'=>?_,?_⟩) hw
  ·rw[hop]at ho';cases ho'
   unfold RR;rw[zW (by simp[hq])];exact h.1
  ·rw[<-listedAt_succ (x:=(j,held)) hk];exact h.2
theorem okPlan_spec{draw:Bool}{p:Plan}(h:okPlan P ops draw p=true) :
  p.groups.all (grpOk ops)=true/\(draw=false->p.groups.flatMap (·.2)=rangeIt ops.size/\p.alts=[]) /\
  (draw=true->(stepsOk P p.pure ops (bef .any ops) (p.groups.flatMap (·.2)) (Array.replicate ops.size false)=true/\phOk ops (heldOf p) (CC (bef .any ops) (heldOf p)) (p.groups.flatMap (·.2))=true)/\Region.noSelect ops=true /\
   Region.ready .any ops (listAll (p.groups.flatMap (·.2)) (Array.replicate ops.size false))=headsOf p.alts /\
   (p.alts=[]->(p.groups.flatMap (·.2)).length=ops.size) /\
   (p.alts≠[]->waysOk P p.pure ops (bef .any ops) (heldOf p) p.alts (p.groups.flatMap (·.2)) (listAll (p.groups.flatMap (·.2)) (Array.replicate ops.size false))=true)):=by
 unfold okPlan at h
 simp only[yC]at h
 obtain⟨h0,h⟩:=h
 refine⟨h0,fun hd=>?_,fun hd=>?_⟩
 ·subst hd
  simp only[yC,beq_iff_eq,List.isEmpty_iff]at h
  exact h
 ·subst hd
  simp only[yC,beq_iff_eq]at h
  obtain⟨⟨⟨⟨h1,h5⟩,h2⟩,h3⟩,h4⟩:=h
  refine⟨⟨h1,h5⟩,h2,h3,fun he=>?_,fun hne=>?_⟩
  ·rw[zX (by simpa using he)]at h4;simpa using h4
  ·rw[zW (by simpa using hne)]at h4;exact h4
theorem heldOf_mem{p:Plan}{x:Nat×Bool}(hx:x∈p.groups.flatMap (·.2)\/x∈itemsL p.alts)(h2:x.2=true):(heldOf p).contains x.1=true:=by
 rw[List.contains_iff_mem]
 unfold heldOf
 exact List.mem_map.2 ⟨x,List.mem_filter.2 ⟨List.mem_append.2 hx,h2⟩,rfl⟩
inductive AX where
 |normal
 |exit (id:Nat)
 |goto (l:Nat)
 |ret
def XR:AX->Exit->Prop
 |.normal,.normal=>True
 |.exit i,.exit j=>i=j
 |.goto i,.goto j=>i=j
 |.ret,.ret=>True
 |_,_=>False
abbrev Post:=AX->St->AH->Prop
abbrev PPost:=List ADef->AV->AH->Prop
def thenQ(K:St->AH->Prop)(Q:Post):Post
 |.normal,s,h=>K s h
 |x,s,h=>Q x s h
def blockQ(id:Nat)(Q:Post):Post
 |.exit j,s,h=>if j=id then Q .normal s h else Q (.exit j) s h
 |x,s,h=>Q x s h
def aIter(F:Post->PPost->St->AH->Prop):Nat->Post->PPost->St->AH->Prop
 |0,_,_,_,_=>False
 |n+1,Q,QP,s,h=>F (thenQ (fun s h=>aIter F n Q QP s h) Q) QP s h
def aLoop(F:Post->PPost->St->AH->Prop)(Q:Post)(QP:PPost)(s:St)(h:AH):Prop:=∃n,aIter F n Q QP s h
def noGotoQ(Q:Post):Post
 |.goto _,_,_=>False
 |x,s,h=>Q x s h
def aw(P:Program)(N:Nat)(W:Nat->Prop)(pl:Plans):Code->Post->PPost->St->AH->Prop
 |.skip,Q,_,s,h=>Q .normal s h
 |.label _,Q,_,s,h=>Q .normal s h
 |.exit id,Q,_,s,h=>Q (.exit id) s h
 |.goto l,Q,_,s,h=>Q (.goto l) s h
 |.ret,Q,_,s,h=>Q .ret s h
 |.seq a b,Q,QP,s,h=>aw P N W pl a (thenQ (aw P N W pl b Q QP) Q) QP s h
 |.cond c a b,Q,QP,s,h=>aIf (aev s c) (aw P N W pl a Q QP s h) (aw P N W pl b Q QP s h)
 |.block id c,Q,QP,s,h=>aw P N W pl c (blockQ id Q) QP s h
 |.loop c,Q,QP,s,h=>aLoop (aw P N W pl c) Q QP s h
 |.scope c,Q,QP,s,h=>aw P N W pl c (noGotoQ Q) QP s h
 |.region id ops _,Q,QP,s,h=>aRegion P N W QP pl id ops (Q .normal) s h
 |.rangeFunc ..,_,_,_,_=>False
 |.refuse _,_,_,_,_=>False
def CQ(E0:Env)(h0:AH)(W:Nat->Prop)(w0:World)(N:Nat)(Q:Post)(QP:PPost):Exit->Act->World->Prop:=fun e a w=>
 (∃x E h s,XR x e/\Step E0 h0 W w0 E h w/\AR E N s a/\Q x s h) \/
 (∃v u E h ds,e=.panic [{ v:=u,recovered:=false }]/\Step E0 h0 W w0 E h w/\VR E v u/\DRs E ds a.defers/\QP ds v h)
theorem CQ.trans{E0 E1:Env}{h0 h1:AH}{w0 w1:World}{Q:Post}{QP:PPost}{e:Exit}{a:Act}{w:World}(hr:Rel E0 h0 w0)(hs:Step E0 h0 W w0 E1 h1 w1)(hc:CQ E1 h1 W w1 N Q QP e a w):CQ E0 h0 W w0 N Q QP e a w:=by
 rcases hc with⟨x,E,h,s,a1,a2,a3,a4⟩ |⟨v,u,E,h,ds,a1,a2,a3,a4⟩
 ·exact .inl ⟨x,E,h,s,a1,hs.trans hr a2 (fun _ _ hm=>.inl hm),a3,a4⟩
 ·exact .inr ⟨v,u,E,h,ds,a1,hs.trans hr a2 (fun _ _ hm=>.inl hm),a3,a4⟩
section
variable {hl pu:List Nat} {Wf:Nat->Nat->Prop} {Hd:Nat->Nat->Prop} {K:St->AH->Prop} {E:Env} {h:AH} {w0:World}
structure DrawC (P:Program) (N:Nat) (W:Nat->Prop) (QP:List ADef->AV->AH->Prop) (ops:Array Oper) (Q:Exit->Act->World->Prop) (hl pu:List Nat) (Wf:Nat->Nat->Prop) (Hd:Nat->Nat->Prop) (K:St->AH->Prop) (E:Env) (h:AH) (w0:World):Prop where
 rel:Rel E h w0
 wf:∀i id,Wf i id->W id
 sel:Region.noSelect ops=true
 put:∀dst v c a' w',Q (.panic c) (Act.put a' dst v) w'->Q (.panic c) a' w'
 heap:∀(l:Nat)(w1 w2:World),HeldW (Hd l) E h w0 w1->w2.heap=w1.heap->HeldW (Hd l) E h w0 w2
 cx:∀ord:List (Nat×Bool),(∀(k:Nat)(x:Nat×Bool),ord[k]?=some x->x.2=true->hl.contains x.1=true)->phOk ops hl (CC (bef .any ops) hl) ord=true->Ctx P N ops hl (CC (bef .any ops) hl) (fun i=>pu.contains i) ord W Wf Hd QP Q E h w0
 last:∀s' a' E' h' w',Step E h W w0 E' h' w'->AR E' N s' a'->K s' h'->Q .normal a' w'
mutual
theorem way_ok(dc:DrawC P N W QP ops Q hl pu Wf Hd K E h w0):∀(wy:Way)(order:List (Nat×Bool)),wayOk P pu ops (bef .any ops) hl wy order (listedAt ops.size order order.length)=true ->
  (∀(k:Nat)(x:Nat×Bool),order[k]?=some x->x.2=true->hl.contains x.1=true)->(∀x∈wy.items,x.2=true->hl.contains x.1=true)->Closed .any ops (listedAt ops.size order order.length) ->
  (∀i,i∈(wy.path.head?.map (·.1))->i∈Region.ready .any ops (listedAt ops.size order order.length)) ->
  ∀(s1:St)(a1:Act)(E1:Env)(h1:AH)(w1:World),Step E h W w0 E1 h1 w1->HI ops hl (CC (bef .any ops) hl) order Hd E h w0 order.length h1 w1->AR E1 N s1 a1->evW P N Wf Hd QP ops wy K s1 h1 ->
  ∃i,wy.path.head?.map (·.1)=some i/\order.length<ops.size/\wpOp P ops Q i (fun a' w'=>(∀o,ops[i]?=some o->RR (CC (bef .any ops) hl) (fun l=>HeldW (Hd l) E h w0) (fun i=>pu.contains i) i o w1 w') /\
   wpAnyR P .any ops Q (CC (bef .any ops) hl) (fun l=>HeldW (Hd l) E h w0) (fun i=>pu.contains i) (ops.size-(order.length+1)) ((listedAt ops.size order order.length).setIfInBounds i true) a' w') a1 w1
 |.mk path ws,order,hok,hhO,hit,hcl0,hrd,s1,a1,E1,h1',w1,hs1,hI1,ha1,hev=>by
  cases path with
  |nil=>simp[wayOk]at hok
  |cons x rest=>
  obtain⟨i,hd⟩:=x
  refine⟨i,rfl,?_⟩
  unfold wayOk at hok
  simp only[yC,Nat.ble_eq,beq_iff_eq]at hok
  obtain⟨⟨⟨⟨⟨⟨⟨hq,hso⟩,hgo⟩,hln⟩,hpa2⟩,hre⟩,hend⟩,hwo⟩:=hok
  simp only[List.length_cons]at hln
  refine⟨by omega,?_⟩
  have hhA:∀(k:Nat)(x:Nat×Bool),(order++(i,hd)::rest)[k]?=some x->x.2=true->hl.contains x.1=true:=fun k x hk hx=>by
   rw[List.getElem?_append]at hk
   split at hk
   ·exact hhO k x hk hx
   ·exact hit x (by unfold Way.items;exact List.mem_append_left _ (zP hk)) hx
  have hmemr:i∈Region.ready .any ops (listedAt ops.size order order.length):=hrd i (by simp[Way.path])
  unfold evW at hev
  cases hop:ops[i]? with
  |none=>rw[hop]at hq;simp at hq
  |some o=>
   rw[hop]at hq
   have hq':isQ o.op=false:=by simpa using hq
   simp only[grpOk,List.all_cons,hop,yC]at hgo
   obtain⟨⟨hgd,_⟩,hgo⟩:=hgo
   have hgd:o.guard=none:=by simpa using hgd
   have hwant:Region.wanted o (yielded ops a1.tmps)=true:=by simp[Region.wanted,hgd]
   simp only[evI,hop,aStep,hq']at hev
   unfold wpOp
   simp only[hop,hwant,zV]
   have hget:∀m x,rest[m]?=some x->(order++(i,hd)::rest)[order.length+1+m]?=some x:=by
    intro m x hm
    rw[List.getElem?_append_right (by omega),show order.length+1+m-order.length=m+1 from by omega];simpa using hm
   have hla:∀m,listedAt ops.size (order++(i,hd)::rest) (order.length+1+m)=listAll (rest.take m) ((listedAt ops.size order order.length).setIfInBounds i true):=by
    intro m
    unfold listedAt listAll
    rw[List.take_append,List.take_of_length_le (by omega),show order.length+1+m-order.length=m+1 from by omega]
    simp
   have stR:∀k x,order.length+1<=k->(order++(i,hd)::rest)[k]?=some x->stepOk P pu ops (bef .any ops) (listedAt ops.size (order++(i,hd)::rest) k) x=true:=by
    intro k x hk hx
    obtain⟨m,rfl⟩:∃m,k=order.length+1+m:=⟨k-(order.length+1),by omega⟩
    rw[hla]
    refine stepsOk_at rest _ hso m x ?_
    rw[List.getElem?_append_right (by omega),show order.length+1+m-order.length=m+1 from by omega]at hx
    simpa using hx
   have hcl1:Closed .any ops (listedAt ops.size (order++(i,hd)::rest) (order.length+1)):=by
    have:=hla 0
    simp only[Nat.add_zero,List.take_zero]at this
    rw[this]
    exact hcl0.set hmemr
   have hlend:listedAt ops.size (order++(i,hd)::rest) (order++(i,hd)::rest).length=listAll ((i,hd)::rest) (listedAt ops.size order order.length):=by
    rw[show(order++(i,hd)::rest).length=order.length+1+rest.length from by simp;omega,hla]
    simp[listAll]
   have hclE:Closed .any ops (listedAt ops.size (order++(i,hd)::rest) (order++(i,hd)::rest).length):=by
    have:=closed_from (P:=P) (pu:=pu) (ops:=ops) (B:=bef .any ops) (order:=order++(i,hd)::rest) (k1:=order.length+1) stR hcl1 rest.length
    rwa [show order.length+1+rest.length=(order++(i,hd)::rest).length from by simp;omega]at this
   refine .inl (eOp_okA o hs1.rel ha1 hev ?_ ?_)
   ·intro v ds' E' h' w' a' b1 bA b2 b3
    have cx2:=dc.cx _ hhA hpa2
    have hk2:(order++(i,hd)::rest)[order.length]?=some (i,hd):=by rw[List.getElem?_append_right (zU _)];simp
    have hqa:qAt ops i=false:=by unfold qAt;rw[hop];exact hq'
    have hph:∀l,phk ops (CC (bef .any ops) hl) (order++(i,hd)::rest) order.length l=phk ops (CC (bef .any ops) hl) order order.length l:=by
     intro l;unfold phk;rw[List.take_append,List.take_of_length_le (zU _)];simp
    have hI1':HI ops hl (CC (bef .any ops) hl) (order++(i,hd)::rest) Hd E h w0 order.length h1' w1:=fun l hc hp=>hI1 l hc (by rw[<-hph];exact hp)
    have hord:=phOk_at hpa2 hk2 hop
    have hs':=hs1.trans dc.rel b1 (fun id _ hm=>.inl (dc.wf i id hm))
    have hI':=HI.eff cx2 hI1' hs1 hk2 hqa b1
    have hHW:∀l,CC (bef .any ops) hl i l=true->HeldW (Hd l) E h w0 w':=by
     intro l hc
     have hcl:=cx2.hc i l hc
     exact hI'.held hcl (by rw[phk_succ hk2,hord.2 hq' l hcl hc,hc,Bool.or_true];rfl)
    refine⟨fun o' ho'=>by cases ho';unfold RR;rw[zW (by simp[hq'])];exact⟨hHW,fun hh=>bA (hh.imp (fun h=>h) fun hp id hw=>cx2.pw i id hp hw)⟩,?_⟩
    have:=evI_ok cx2 (drv_draw (pu:=pu) dc.heap (fun dst v c a w hh=>dc.put dst v c a w hh) dc.sel hhA stR hcl1 (by simp;omega)) none rest (order.length+1) _ a' E' h' w' (zU _) hget hgo rfl hs' hI' b2 b3 (fun s2 a2 E2 h2 w2 c1 cI c2 c3=>by
     have hlenE:order.length+1+rest.length=(order++(i,hd)::rest).length:=by simp;omega
     rw[hlenE]at cI ⊢
     cases ws with
     |nil=>
      have hz:ops.size-(order++(i,hd)::rest).length=0:=by simp at hend ⊢;omega
      simp only[hz,wpAnyR]
      refine⟨?_,dc.last s2 a2 E2 h2 w2 c1 c2 c3⟩
      rw[hlend,hre];rfl
     |cons wy2 ws2=>
      exact ways_ok dc (wy2::ws2) (order++(i,hd)::rest) (by rw[hlend];exact hwo) hhA (fun x hx h2=>hit x (by unfold Way.items;exact List.mem_append_right _ hx) h2) hclE (by rw[hlend];exact hre) (by simp) s2 a2 E2 h2 w2 c1 cI c2 c3)
    have h0:=hla 0
    simp only[Nat.add_zero,List.take_zero]at h0
    rw[h0]at this
    exact this
   ·intro v E' h' w' u b1 b2 b3
    exact(dc.cx _ hhA hpa2).pan v E' h' w' u a1 s1.ds (hs1.trans dc.rel b1 (fun id _ hm=>.inl (dc.wf i id hm))) b2 (ha1.ds.mono b1.env) b3
termination_by wy=>SizeOf.sizeOf wy
theorem ways_each(dc:DrawC P N W QP ops Q hl pu Wf Hd K E h w0):∀(ws:List Way)(order:List (Nat×Bool)),waysOk P pu ops (bef .any ops) hl ws order (listedAt ops.size order order.length)=true ->
  (∀(k:Nat)(x:Nat×Bool),order[k]?=some x->x.2=true->hl.contains x.1=true)->(∀x∈itemsL ws,x.2=true->hl.contains x.1=true)->Closed .any ops (listedAt ops.size order order.length) ->
  (∀i∈headsOf ws,i∈Region.ready .any ops (listedAt ops.size order order.length)) ->
  ∀(s1:St)(a1:Act)(E1:Env)(h1:AH)(w1:World),Step E h W w0 E1 h1 w1->HI ops hl (CC (bef .any ops) hl) order Hd E h w0 order.length h1 w1->AR E1 N s1 a1->evWs P N Wf Hd QP ops ws K s1 h1 ->
  ∀i∈headsOf ws,order.length<ops.size/\wpOp P ops Q i (fun a' w'=>(∀o,ops[i]?=some o->RR (CC (bef .any ops) hl) (fun l=>HeldW (Hd l) E h w0) (fun i=>pu.contains i) i o w1 w') /\
   wpAnyR P .any ops Q (CC (bef .any ops) hl) (fun l=>HeldW (Hd l) E h w0) (fun i=>pu.contains i) (ops.size-(order.length+1)) ((listedAt ops.size order order.length).setIfInBounds i true) a' w') a1 w1
 |[],_,_,_,_,_,_,_,_,_,_,_,_,_,_,_,i,hi=>by simp[headsOf]at hi
 |wy::r,order,hok,hhO,hit,hcl0,hrd,s1,a1,E1,h1',w1,hs1,hI1,ha1,hev,i,hi=>by
  unfold waysOk at hok
  rw[yC]at hok
  unfold evWs at hev
  have hne:wy.path≠[]:=by
   intro h0
   cases wy with
   |mk p ws=>simp only[Way.path]at h0;subst h0;simp[wayOk]at hok
  obtain⟨j,hj⟩:∃j,wy.path.head?.map (·.1)=some j:=by
   cases hp:wy.path with
   |nil=>exact absurd hp hne
   |cons x l=>exact⟨x.1,rfl⟩
  simp only[headsOf,List.map_cons,List.mem_cons]at hi
  rcases hi with hi |hi
  ·rw[hj]at hi
   simp only[Option.getD_some]at hi
   subst hi
   obtain⟨i',h1,h2⟩:=way_ok dc wy order hok.1 hhO (fun x hx=>hit x (by unfold itemsL;exact List.mem_append_left _ hx)) hcl0 (fun q hq=>hrd q (by rw[hj]at hq;simp only[Option.mem_def,zQ]at hq;subst hq;simp[headsOf,hj])) s1 a1 E1 h1' w1 hs1 hI1 ha1 hev.1
   rw[hj]at h1;cases h1
   exact h2
  ·exact ways_each dc r order hok.2 hhO (fun x hx=>hit x (by unfold itemsL;exact List.mem_append_right _ hx)) hcl0 (fun q hq=>hrd q (by simp only[headsOf,List.map_cons,List.mem_cons];exact .inr hq)) s1 a1 E1 h1' w1 hs1 hI1 ha1 hev.2 i hi
termination_by ws=>SizeOf.sizeOf ws
theorem ways_ok(dc:DrawC P N W QP ops Q hl pu Wf Hd K E h w0):∀(ws:List Way)(order:List (Nat×Bool)),waysOk P pu ops (bef .any ops) hl ws order (listedAt ops.size order order.length)=true ->
  (∀(k:Nat)(x:Nat×Bool),order[k]?=some x->x.2=true->hl.contains x.1=true)->(∀x∈itemsL ws,x.2=true->hl.contains x.1=true)->Closed .any ops (listedAt ops.size order order.length) ->
  Region.ready .any ops (listedAt ops.size order order.length)=headsOf ws->ws≠[] ->
  ∀(s1:St)(a1:Act)(E1:Env)(h1:AH)(w1:World),Step E h W w0 E1 h1 w1->HI ops hl (CC (bef .any ops) hl) order Hd E h w0 order.length h1 w1->AR E1 N s1 a1->evWs P N Wf Hd QP ops ws K s1 h1 ->
  wpAnyR P .any ops Q (CC (bef .any ops) hl) (fun l=>HeldW (Hd l) E h w0) (fun i=>pu.contains i) (ops.size-order.length) (listedAt ops.size order order.length) a1 w1
 |ws,order,hok,hhO,hit,hcl0,hready,hne,s1,a1,E1,h1',w1,hs1,hI1,ha1,hev=>by
  have each:=ways_each dc ws order hok hhO hit hcl0 (fun i hi=>by rw[hready];exact hi) s1 a1 E1 h1' w1 hs1 hI1 ha1 hev
  have hhne:headsOf ws≠[]:=fun h0=>hne (List.map_eq_nil_iff.1 h0)
  have hlt:order.length<ops.size:=by
   cases hh:headsOf ws with
   |nil=>exact absurd hh hhne
   |cons j l=>exact(each j (by rw[hh];simp)).1
  have hn:ops.size-order.length=(ops.size-(order.length+1))+1:=by omega
  simp only[hn]
  refine⟨fun h0=>absurd (by rw[<-hready];exact h0) hhne,fun i hi=>?_⟩
  rw[hready]at hi
  exact(each i hi).2
termination_by ws=>SizeOf.sizeOf ws+1
end
end
theorem phOk_plain{C:Nat->Nat->Bool}:phOk ops [] C (rangeIt ops.size)=true:=by
 unfold phOk
 rw[List.all_eq_true]
 intro k hk
 have hk':k<ops.size:=by simpa[rangeIt] using hk
 have:(rangeIt ops.size)[k]?=some (k,false):=by simp[rangeIt,hk']
 rw[this]
 simp
theorem aRegion_ok(hm:P.follows .mixedOrders=true){pl:Plans}{id:Nat}{draw:Bool}(hpl:okRegion P pl id ops draw=true){K:St->AH->Prop}{Q:Post}{s:St}{a:Act}{E:Env}{h:AH}{w:World}(hKQ:∀s h,K s h->Q .normal s h)
  (hr:Rel E h w) (ha:AR E N s a) (hp:aRegion P N W QP pl id ops K s h):(Code.region id ops draw).wp P (CQ E h W w N Q QP) a w:=by
 have plain:∀(Wf:Nat->Nat->Prop)(Hd:Nat->Nat->Prop),draw=false->(∀i id,Wf i id->W id)->∀gs,gs.all (grpOk ops)=true->gs.flatMap (·.2)=rangeIt ops.size->evG P N Wf Hd QP ops gs K s h->(Code.region id ops draw).wp P (CQ E h W w N Q QP) a w:=by
  intro Wf Hd hdr hwf gs hg hfl he'
  subst hdr
  have cx:Ctx P N ops [] (fun _ _=>false) (fun _=>false) (rangeIt ops.size) W Wf Hd QP (CQ E h W w N Q QP) E h w:=⟨hr,fun _ _ h=>by simp at h,fun _ _ _ h=>by simp at h,hwf,fun _ _ h=>by simp at h,fun _ _ h=>by simp at h,fun k x hk hx=>by
   have hk':k<ops.size:=by have:=(zM.1 hk).1;simpa[rangeIt] using this
   simp[rangeIt,hk']at hk
   subst hk
   simp at hx,phOk_plain,fun v E' h' w' u a ds h1 h2 h3 h4=>.inr ⟨v,u,E',h',ds,rfl,h1,h2,h3,h4⟩⟩
  have:=evG_ok cx (drv_plain (rangeIt ops.size)) (fun s' a' E' h' w' h1 _ h2 h3=>by
   simp only[List.drop_length,List.map_nil,wpOps]
   exact .inl ⟨.normal,E',h',s',trivial,h1,h2,hKQ _ _ h3⟩) _ 0 s a E h w (zU _) (fun m=>by rw[hfl];simp) (by rw[hfl];simp) hg (Step.refl hr) HI.start ha he'
  refine wp_region ?_
  simpa[rangeIt,Function.comp_def] using this
 unfold aRegion at hp
 unfold okRegion at hpl
 split at hp
 ·rename_i h0
  rw[h0]at hpl
  simp only[yC,Bool.not_eq_true']at hpl
  exact plain (fun _=>W) nobody hpl.1 (fun _ _ h=>h) [(none,rangeIt ops.size)] (by simpa using hpl.2) (by simp) (by simpa[evG] using hp)
 rename_i p h0
 rw[h0]at hpl
 simp only at hpl
 have main:∀(Wf:Nat->Nat->Prop)(Hd:Nat->Nat->Prop),(∀i id,(heldOf p).contains i=true->Hd i id->h.obj id≠none)->(∀j i id,CC (bef .any ops) (heldOf p) j i=true->Hd i id->¬Wf j id)->(∀i id,Wf i id->W id)->(∀j id,p.pure.contains j=true->¬Wf j id)->evP P N Wf Hd QP ops p K s h->(Code.region id ops draw).wp P (CQ E h W w N Q QP) a w:=by
  intro Wf Hd hHd hW hwf hpw he
  obtain⟨hg,hplain,hdraw⟩:=okPlan_spec hpl
  cases draw with
  |false=>
   obtain⟨hfl,hno⟩:=hplain rfl
   exact plain Wf Hd rfl hwf p.groups hg hfl (by unfold evP at he;rw[hno]at he;exact he)
  |true=>
   obtain⟨⟨hok,hpo⟩,hsel,hready,hlen,halt⟩:=hdraw rfl
   have hhO:∀(k:Nat)(x:Nat×Bool),(p.groups.flatMap (·.2))[k]?=some x->x.2=true->(heldOf p).contains x.1=true:=fun k x hk hx=>heldOf_mem (.inl (zP hk)) hx
   have hhI:∀x∈itemsL p.alts,x.2=true->(heldOf p).contains x.1=true:=fun x hx h2=>heldOf_mem (.inr hx) h2
   have hcc:∀j i,CC (bef .any ops) (heldOf p) j i=true->(heldOf p).contains i=true:=fun j i hc=>by unfold CC at hc;simp only[yC]at hc;exact hc.1
   generalize heldOf p=hl at *
   generalize hfl:p.groups.flatMap (·.2)=order at *
   have hr':Rel E h { w with drawn:=w.drawn+1 }:=hr.of_heap rfl
   have hst:Step E h W w E h { w with drawn:=w.drawn+1 }:=Step.drew hr rfl rfl rfl rfl
   have dc:DrawC P N W QP ops (CQ E h W w N Q QP) hl p.pure Wf Hd K E h { w with drawn:=w.drawn+1 }:={
    rel:=hr'
    wf:=hwf
    sel:=hsel
    put:=by
     intro dst v c a' w' hh
     rcases hh with⟨x,E',h',s',a1,_⟩ |⟨v',u,E',h',ds,a1,a2,a3,a4,a5⟩
     ·cases x<;>exact a1.elim
     ·refine .inr ⟨v',u,E',h',ds,a1,a2,a3,?_,a5⟩
      cases dst<;>exact a4
    heap:=by
     intro l w1 w2 h1 h2 id B a1 a2 a3
     rw[h2];exact h1 id B a1 a2 a3
    cx:=fun ord hho hord=>⟨hr',hHd,hW,hwf,hpw,hcc,hho,hord,fun v E' h' w' u a ds h1 h2 h3 h4=>.inr ⟨v,u,E',h',ds,rfl,hst.trans hr h1 (fun _ _ hm=>.inl hm),h2,h3,h4⟩⟩
    last:=fun s' a' E' h' w' h1 h2 h3=>.inl ⟨.normal,E',h',s',trivial,hst.trans hr h1 (fun _ _ hm=>.inl hm),h2,hKQ _ _ h3⟩ }
   have cx:=dc.cx order hhO hpo
   have stO:∀k x,0<=k->order[k]?=some x->stepOk P p.pure ops (bef .any ops) (listedAt ops.size order k) x=true:=fun k x _ hk=>stepsOk_at order _ hok k x hk
   have atEnd:listedAt ops.size order order.length=listAll order (Array.replicate ops.size false):=by simp[listedAt]
   refine wp_region_any hm (wpAny_of_R (C:=CC (bef .any ops) hl) (S:=fun l=>HeldW (Hd l) E h { w with drawn:=w.drawn+1 }) (pu:=fun i=>p.pure.contains i) _ _ _ _ ?_)
   have start:wpAnyR P .any ops (CQ E h W w N Q QP) (CC (bef .any ops) hl) (fun l=>HeldW (Hd l) E h { w with drawn:=w.drawn+1 }) (fun i=>p.pure.contains i) (ops.size-0) (listedAt ops.size order 0) a { w with drawn:=w.drawn+1 }:=by
    by_cases hne:p.alts=[]
    ·have he':evG P N Wf Hd QP ops p.groups K s h:=by unfold evP at he;rw[hne]at he;exact he
     have hl:=hlen hne
     refine evG_ok cx (drv_draw (pu:=p.pure) dc.heap (fun dst v c a w hh=>dc.put dst v c a w hh) hsel hhO stO (closed_zero order) (by omega)) (fun s' a' E' h' w' h1 _ h2 h3=>?_) _ 0 s a E h _ (zU _) (fun m=>by rw[hfl];simp) (by rw[hfl];simp) hg (Step.refl hr') HI.start ha he'
     have h0:ops.size-order.length=0:=by omega
     simp only[h0,wpAnyR]
     exact⟨by rw[atEnd,hready,hne];rfl,dc.last s' a' E' h' w' h1 h2 h3⟩
    ·have hal:=halt hne
     have he':evG P N Wf Hd QP ops p.groups (evWs P N Wf Hd QP ops p.alts K) s h:=by
      unfold evP at he
      split at he
      ·rename_i h0;exact absurd h0 hne
      ·exact he
     have hle:order.length<=ops.size:=by
      cases hpa':p.alts with
      |nil=>exact absurd hpa' hne
      |cons wy ws=>
       rw[hpa']at hal
       unfold waysOk at hal
       rw[yC]at hal
       have h2:=hal.1
       cases wy with
       |mk path nx=>
        unfold wayOk at h2
        simp only[yC,Nat.ble_eq]at h2
        omega
     refine evG_ok cx (drv_draw (pu:=p.pure) dc.heap (fun dst v c a w hh=>dc.put dst v c a w hh) hsel hhO stO (closed_zero order) hle) (fun s1 a1 E1 h1' w1 hs1 hI1 ha1 hk1=>?_) _ 0 s a E h _ (zU _) (fun m=>by rw[hfl];simp) (by rw[hfl];simp) hg (Step.refl hr') HI.start ha he'
     have hcl0:Closed .any ops (listedAt ops.size order order.length):=by
      have:=closed_from (P:=P) (pu:=p.pure) (ops:=ops) (B:=bef .any ops) (order:=order) (k1:=0) stO (closed_zero order) order.length
      simpa using this
     exact ways_ok dc p.alts order (by rw[atEnd];exact hal) hhO hhI hcl0 (by rw[atEnd];exact hready) hne s1 a1 E1 h1' w1 hs1 hI1 ha1 hk1
   simpa[listedAt,listAll] using start
 have puN:∀(Wg:Nat->Nat->Prop)(j id:Nat),p.pure.contains j=true->¬puW p.pure Wg j id:=by
  intro Wg j id hj
  unfold puW
  rw[hj]
  exact fun h=>h
 have puS:∀(Wg:Nat->Nat->Prop)(j id:Nat),puW p.pure Wg j id->Wg j id:=by
  intro Wg j id hj
  unfold puW at hj
  cases hc:p.pure.contains j with
  |true=>rw[hc]at hj;exact hj.elim
  |false=>rw[hc]at hj;exact hj
 cases hhd:p.held
 ·rw[hhd]at hp
  exact main _ nobody (fun _ _ _ h=>h.elim) (fun _ _ _ _ h=>h.elim) (fun j id h=>puS _ j id h) (fun j id h=>puN _ j id h) hp
 ·rw[hhd]at hp
  obtain⟨Hd,h1,h2⟩:=hp
  refine main _ _ (fun i id hc he=>?_) (fun j i id hc he hm=>?_) ?_ (fun j id h=>puN _ j id h) h2
  ·subst he;exact h1 i (by simpa using hc)
  ·have hm:=puS _ j id hm
   unfold CC at hc
   simp only[yC]at hc
   exact(banO_to hm).2 i (List.mem_filter.2 ⟨by simpa using hc.1,hc.2⟩) he
  ·intro i id hm
   exact(banO_to (puS _ i id hm)).1
end
section
variable {P:Program} {N:Nat} {W:Nat->Prop}
theorem CQ.mono{E0:Env}{h0:AH}{w0:World}{Q Q':Post}{QP QP':PPost}(hq:∀x s h,Q x s h->Q' x s h)(hqp:∀ds v h,QP ds v h->QP' ds v h){e:Exit}{a:Act}{w:World}
  (h:CQ E0 h0 W w0 N Q QP e a w):CQ E0 h0 W w0 N Q' QP' e a w:=by
 rcases h with⟨x,E,h,s,a1,a2,a3,a4⟩ |⟨v,u,E,h,ds,a1,a2,a3,a4,a5⟩
 ·exact .inl ⟨x,E,h,s,a1,a2,a3,hq _ _ _ a4⟩
 ·exact .inr ⟨v,u,E,h,ds,a1,a2,a3,a4,hqp _ _ _ a5⟩
theorem aw_ok(hm:P.follows .mixedOrders=true){pl:Plans}:∀(c:Code)(Q:Post)(QP:PPost)(s:St)(h:AH),okCode P pl c=true->aw P N W pl c Q QP s h->∀(E:Env)(w:World)(a:Act),Rel E h w->AR E N s a->c.wp P (CQ E h W w N Q QP) a w
 |.skip,Q,QP,s,h,hok,hp,E,w,a,hr,ha=>wp_skip (.inl ⟨.normal,E,h,s,trivial,Step.refl hr,ha,hp⟩)
 |.label _,Q,QP,s,h,hok,hp,E,w,a,hr,ha=>wp_label (.inl ⟨.normal,E,h,s,trivial,Step.refl hr,ha,hp⟩)
 |.exit id,Q,QP,s,h,hok,hp,E,w,a,hr,ha=>wp_exit (.inl ⟨.exit id,E,h,s,rfl,Step.refl hr,ha,hp⟩)
 |.goto l,Q,QP,s,h,hok,hp,E,w,a,hr,ha=>wp_goto (.inl ⟨.goto l,E,h,s,rfl,Step.refl hr,ha,hp⟩)
 |.ret,Q,QP,s,h,hok,hp,E,w,a,hr,ha=>wp_ret (.inl ⟨.ret,E,h,s,trivial,Step.refl hr,ha,hp⟩)
 |.region id ops draw,Q,QP,s,h,hok,hp,E,w,a,hr,ha=>aRegion_ok hm hok (fun _ _ h=>h) hr ha hp
 |.rangeFunc ..,_,_,_,_,hok,hp,_,_,_,_,_=>hp.elim
 |.refuse _,_,_,_,_,hok,hp,_,_,_,_,_=>hp.elim
 |.cond c x y,Q,QP,s,h,hok,hp,E,w,a,hr,ha=>by
  simp only[okCode,yC]at hok
  simp only[aw,aIf]at hp
  have hc:=ha.eval c
  split at hp
  ·rename_i t ht
   rw[ht]at hc
   generalize hv:a.eval c=v at hc
   cases hc
   cases t
   ·exact wp_cond_false hv (aw_ok hm y Q QP s h hok.2 (hp.2 rfl) E w a hr ha)
   ·exact wp_cond_true hv (aw_ok hm x Q QP s h hok.1 (hp.1 rfl) E w a hr ha)
  ·exact hp.elim
 |.seq x y,Q,QP,s,h,hok,hp,E,w,a,hr,ha=>by
  simp only[okCode,yC]at hok
  simp only[aw]at hp
  refine wp_seq (wp_mono (aw_ok hm x _ QP s h hok.1 hp E w a hr ha) ?_)
  intro e a' w' hq
  rcases hq with⟨x',E',h',s',a1,a2,a3,a4⟩ |⟨v,u,E',h',ds,rfl,a2,a3,a4,a5⟩
  ·cases x'<;>cases e<;>first |exact a1.elim |skip
   ·exact wp_mono (aw_ok hm y Q QP s' h' hok.2 a4 E' w' a' a2.rel a3) fun e a w h=>h.trans hr a2
   ·exact .inl ⟨_,E',h',s',a1,a2,a3,a4⟩
   ·exact .inl ⟨_,E',h',s',a1,a2,a3,a4⟩
   ·exact .inl ⟨_,E',h',s',a1,a2,a3,a4⟩
  ·exact .inr ⟨v,u,E',h',ds,rfl,a2,a3,a4,a5⟩
 |.block id c,Q,QP,s,h,hok,hp,E,w,a,hr,ha=>by
  simp only[aw]at hp
  refine wp_block (wp_mono (aw_ok hm c _ QP s h hok hp E w a hr ha) ?_)
  intro e a' w' hq
  rcases hq with⟨x',E',h',s',a1,a2,a3,a4⟩ |⟨v,u,E',h',ds,rfl,a2,a3,a4,a5⟩
  ·cases x'<;>cases e<;>first |exact a1.elim |skip
   ·exact .inl ⟨.normal,E',h',s',trivial,a2,a3,a4⟩
   ·cases a1
    simp only[blockQ]at a4
    simp only[Exit.inBlock]
    split
    ·rename_i he;rw[zX he]at a4;exact .inl ⟨.normal,E',h',s',trivial,a2,a3,a4⟩
    ·rename_i he;rw[zW he]at a4;exact .inl ⟨.exit _,E',h',s',rfl,a2,a3,a4⟩
   ·exact .inl ⟨_,E',h',s',a1,a2,a3,a4⟩
   ·exact .inl ⟨_,E',h',s',a1,a2,a3,a4⟩
  ·exact .inr ⟨v,u,E',h',ds,rfl,a2,a3,a4,a5⟩
 |.scope c,Q,QP,s,h,hok,hp,E,w,a,hr,ha=>by
  simp only[aw]at hp
  refine wp_scope_straight (wp_mono (aw_ok hm c _ QP s h hok hp E w a hr ha) ?_)
  intro e a' w' hq
  rcases hq with⟨x',E',h',s',a1,a2,a3,a4⟩ |⟨v,u,E',h',ds,rfl,a2,a3,a4,a5⟩
  ·cases x'<;>cases e<;>first |exact a1.elim |skip
   ·exact .inl ⟨.normal,E',h',s',trivial,a2,a3,a4⟩
   ·exact .inl ⟨_,E',h',s',a1,a2,a3,a4⟩
   ·exact a4.elim
   ·exact .inl ⟨_,E',h',s',a1,a2,a3,a4⟩
  ·exact .inr ⟨v,u,E',h',ds,rfl,a2,a3,a4,a5⟩
 |.loop c,Q,QP,s,h,hok,hp,E,w,a,hr,ha=>by
  obtain⟨n,hp⟩:=hp
  refine wp_loop_rounds n ?_
  have key:∀(n:Nat)(s':St)(h':AH)(E':Env)(w':World)(a':Act),aIter (aw P N W pl c) n Q QP s' h'->Step E h W w E' h' w'->AR E' N s' a'->Code.rounds P c (CQ E h W w N Q QP) n a' w':=by
   intro n
   induction n with
   |zero=>intro s' h' E' w' a' hp _ _;exact hp.elim
   |succ n ih=>
    intro s' h' E' w' a' hp hs ha
    rw[rounds_succ]
    refine wp_mono (aw_ok hm c _ QP s' h' hok hp E' w' a' hs.rel ha) ?_
    intro e a'' w'' hq
    rcases hq with⟨x',E2,h2,s2,a1,a2,a3,a4⟩ |⟨v,u,E2,h2,ds,rfl,a2,a3,a4,a5⟩
    ·have a2':=hs.trans hr a2 (fun _ _ hm=>.inl hm)
     cases x'<;>cases e<;>first |exact a1.elim |skip
     ·exact ih s2 h2 E2 w'' a'' a4 a2' a3
     ·exact .inl ⟨_,E2,h2,s2,a1,a2',a3,a4⟩
     ·exact .inl ⟨_,E2,h2,s2,a1,a2',a3,a4⟩
     ·exact .inl ⟨_,E2,h2,s2,a1,a2',a3,a4⟩
    ·exact .inr ⟨v,u,E2,h2,ds,rfl,hs.trans hr a2 (fun _ _ hm=>.inl hm),a3,a4,a5⟩
  exact key n s h E w a hp (Step.refl hr) ha
def aRes(P:Program):List ResultVar->St->AH->(List AV->Prop)->Prop
 |[],_,_,K=>K []
 |.tmp t::r,s,h,K=>aRes P r s h fun l=>K (s.tm t::l)
 |.cell a t::r,s,h,K=>lLd (aggOf P t) (szOf P t) (s.tm a) h fun v _=>aRes P r s h fun l=>K (v::l)
def tupOf:List AV->AV
 |[v]=>v
 |l=>.tup l
def bodyQ(P:Program)(rs:List ResultVar)(R:AE->AH->Prop):Post
 |.normal,s,h=>s.ds=[]/\aRes P rs s h fun vs=>R (.ret (tupOf vs)) h
 |.ret,s,h=>s.ds=[]/\aRes P rs s h fun vs=>R (.ret (tupOf vs)) h
 |_,_,_=>False
def bodyP(R:AE->AH->Prop):PPost:=fun ds v h=>ds=[]/\R (.pan v) h
def resOne(tmps:Array Value):ResultVar->Sem Value
 |.tmp t=>pure (tmps.getD t undef)
 |.cell a t=>do loadVar t (<-asAddr (tmps.getD a undef))
theorem aRes_ok{E:Env}{s:St}{a:Act}{h:AH}{w:World}(hr:Rel E h w)(ha:AR E N s a):∀(rs:List ResultVar)(K:List AV->Prop),aRes P rs s h K ->
  ∃vs us,VRs E vs us/\K vs/\(rs.mapM (resOne a.tmps)).run P w=.ok us w
 |[],K,hp=>⟨[],[],.nil,hp,by simp⟩
 |.tmp t::rs,K,hp=>by
  obtain⟨vs,us,h1,h2,h3⟩:=aRes_ok hr ha rs _ hp
  exact⟨s.tm t::vs,a.tmps.getD t undef::us,.cons (ha.tm t) h1,h2,by simp[resOne,h3]⟩
 |.cell a' t::rs,K,hp=>by
  simp only[aRes]at hp
  obtain⟨v,u,id,B,h1,h2,h3,h4⟩:=lLd_ok (P:=P) hr (ha.tm a') hp
  obtain⟨vs,us,h5,h6,h7⟩:=aRes_ok hr ha rs _ h2
  refine⟨v::vs,u::us,.cons h1 h5,h6,?_⟩
  have h8:=h4 w rfl
  have h9:(resOne a.tmps (.cell a' t)).run P w=.ok u w:=by
   show(do loadVar t (<-asAddr (a.tmps.getD a' undef)):Sem Value).run P w=.ok u w
   have hx:=ha.tm a'
   unfold Instr.loadAt at h8
   simp only[Sem.run_bind]at h8 ⊢
   have hptr:∃i o,s.tm a'=.ptr i o:=by
    unfold lLd at hp
    split at hp
    ·rename_i he;exact⟨_,_,he⟩
    ·rename_i he;exact⟨_,_,he⟩
    ·exact hp.elim
   obtain⟨i,o,he⟩:=hptr
   rw[he]at hx
   generalize a.tmps.getD a' undef=q at hx h8
   cases hx
   simpa[asAddr,Instr.sureAddr] using h8
  rw[List.mapM_cons,Sem.run_bind,h9]
  simp[h7]
theorem results_ok {E : Env} {s : St} {a : Act} {h : AH} {w : World} (hr : Rel E h w) (ha : AR E N s a) (fn : Func) (K : AV → Prop) (hp : aRes P fn.results.toList s h fun vs => K (tupOf vs)) :
    ∃ v u, VR E v u ∧ K v ∧ (results fn a.tmps).run P w = .ok u w := by
  obtain ⟨vs, us, h1, h2, h3⟩ := aRes_ok hr ha _ _ hp
  refine ⟨tupOf vs, if h : us.toArray.size = 1 then us.toArray[0] else .tuple us.toArray, ?_, h2, ?_⟩
  · cases h1 with
    | nil => simpa [tupOf] using VR.tup VRs.nil
    | cons a1 a2 =>
      cases a2 with
      | nil => simpa [tupOf] using a1
      | cons b1 b2 => simpa [tupOf] using VR.tup (.cons a1 (.cons b1 b2))
  · have he : results fn a.tmps = (do
        let vs ← fn.results.mapM (resOne a.tmps)
        pure (if h : vs.size = 1 then vs[0] else .tuple vs)) := by
      unfold results resOne; rfl
    rw [he, Sem.run_bind, Array.mapM_eq_mapM_toList, Sem.run_map, h3]
    simp
def s0(args:List AV):St:={ tm:=fun i=>args.getD i noA,ds:=[] }
theorem s0_ok{E:Env}{args:List AV}{cargs:List Value}(ha:VRs E args cargs){n:Nat}(hn:args.length<=n) :
  AR E n (s0 args) { tmps:=cargs.toArray++Array.replicate (n-cargs.toArray.size) undef,defers:=[] }:=by
 have hl:=ha.length
 refine⟨by simp;omega,fun i=>?_,.nil⟩
 simp only[s0]
 rw[List.getD_eq_getElem?_getD,Array.getD_eq_getD_getElem?]
 by_cases hi:i<args.length
 ·obtain⟨u,hu,hv⟩:=ha.get (i:=i) (a:=args[i]) (zJ hi)
  rw[zJ hi,Array.getElem?_append_left (by simp;omega)]
  simp[hu,hv]
 ·rw[List.getElem?_eq_none (by omega),Array.getElem?_append_right (by simp;omega)]
  have:((Array.replicate (n-cargs.toArray.size) undef)[i-cargs.toArray.size]?).getD undef=undef:=by
   rw[Array.getElem?_replicate];split<;>rfl
  rw[this]
  exact .sc _
theorem acalls_of{f:FuncId}{fn:Func}{c:Code}{args:List AV}{h:AH}{M:Nat->Prop}{R:AE->AH->Prop}(hm:P.follows .mixedOrders=true)(hf:P.funcs[f]?=some fn)(hb:fn.body=some c)(hn:args.length<=fn.ntmps){pl:Plans}(hok:okCode P pl c=true)
  (hp:aw P fn.ntmps (fun id=>M id\/h.next<=id) pl c (bodyQ P fn.results.toList R) (bodyP R) (s0 args) h):ACalls P f args h M R:=by
 intro E w cargs hr ha
 refine calls_of_wp hf hb (wp_mono (aw_ok hm c _ _ _ h hok hp E w _ hr (s0_ok ha hn)) ?_)
 have back:∀E' h' w',Step E h (fun id=>M id\/h.next<=id) w E' h' w'->Step E h M w E' h' w':=fun E' h' w' hs=>(Step.refl hr).trans hr hs (fun id hlt hm=>by
  rcases hm with hm |hm
  ·exact .inl hm
  ·exact .inr hm)
 intro e a' w' hq
 rcases hq with⟨x,E',h',s',a1,a2,a3,a4⟩ |⟨v,u,E',h',ds,rfl,a2,a3,a4,a5⟩
 ·have fin:s'.ds=[]->(aRes P fn.results.toList s' h' fun vs=>R (.ret (tupOf vs)) h')->a'.defers=[]/\∃v,(results fn a'.tmps).run P w'=.ok v w'/\∃E'' h'' ae,Step E h M w E'' h'' w'/\ER E'' ae (.returned v)/\R ae h'':=by
   intro hds hres
   obtain⟨v,u,b1,b2,b3⟩:=results_ok a2.rel a3 fn (fun v=>R (.ret v) h') hres
   refine⟨?_,u,b3,E',h',.ret v,back _ _ _ a2,b1,b2⟩
   have:=a3.ds
   rw[hds]at this
   generalize a'.defers=l at this
   cases this;rfl
  cases x<;>cases e<;>first |exact a1.elim |exact a4.elim |exact fin a4.1 a4.2
 ·refine⟨?_,E',h',.pan v,back _ _ _ a2,⟨u,rfl,a3⟩,a5.2⟩
  have:=a4
  rw[a5.1]at this
  generalize a'.defers=l at this
  cases this;rfl
end
section
variable {P:Program} {N:Nat} {W:Nat->Prop} {pl:Plans}
theorem aIf_mono{x:AV}{a b a' b':Prop}(ha:a->a')(hb:b->b')(hp:aIf x a b):aIf x a' b':=by
 unfold aIf at *
 split at hp
 ·exact⟨fun h=>ha (hp.1 h),fun h=>hb (hp.2 h)⟩
 ·exact hp.elim
theorem aIg_mono{want:Bool}{x:AV}{a b a' b':Prop}(ha:a->a')(hb:b->b')(hp:aIg want x a b):aIg want x a' b':=by
 unfold aIg at *
 split at hp
 ·exact⟨fun h=>ha (hp.1 h),fun h=>hb (hp.2 h)⟩
 ·exact hb hp
 ·exact hp.elim
def Code.at:Code->List Nat->Code
 |c,[]=>c
 |.seq a _,0::p=>Code.at a p
 |.seq _ b,_::p=>Code.at b p
 |.cond _ a _,0::p=>Code.at a p
 |.cond _ _ b,_::p=>Code.at b p
 |.block _ c,_::p=>Code.at c p
 |.loop c,_::p=>Code.at c p
 |.scope c,_::p=>Code.at c p
 |c,_=>c
abbrev mkO(cells:List AV)(sz:Nat)(ty:TypeId):AO:={ cells:=cells,sz:=sz,ty:=ty }
theorem AH.alloc_obj(h:AH)(o:AO)(i:Nat):(h.alloc o).obj i=if i=h.next then some o else h.obj i:=rfl
theorem AH.alloc_next(h:AH)(o:AO):(h.alloc o).next=h.next+1:=rfl
theorem AH.del_next(h:AH)(id:Nat):(h.del id).next=h.next:=rfl
theorem AH.del_obj(h:AH)(id i:Nat):(h.del id).obj i=if i=id then none else h.obj i:=rfl
theorem AH.setKind_obj(h:AH)(id:Nat)(k:Kind)(i:Nat):(h.setKind id k).obj i=if i=id then(h.obj i).map (fun o=>{ o with kind:=k }) else h.obj i:=rfl
theorem AH.alloc_new(h:AH)(o:AO):(h.alloc o).obj h.next=some o:=by simp[AH.alloc_obj]
theorem AH.alloc_old{h:AH}{o:AO}{i:Nat}(hi:i<h.next):(h.alloc o).obj i=h.obj i:=by rw[AH.alloc_obj,zW (by omega)]
theorem AH.put_old{h:AH}{id off:Nat}{cs:List AV}{i:Nat}(hi:i≠id):(h.put id off cs).obj i=h.obj i:=by rw[AH.put_obj,zW hi]
theorem AH.put_at{h:AH}{id off:Nat}{cs:List AV}{o:AO}(ho:h.obj id=some o):(h.put id off cs).obj id=some { o with cells:=putCells o.cells off cs }:=by rw[AH.put_obj,zX rfl,ho];rfl
theorem AH.del_old{h:AH}{id i:Nat}(hi:i≠id):(h.del id).obj i=h.obj i:=by rw[AH.del_obj,zW hi]
end
section
variable {P:Program}
def puts(tm:Nat->AV):List (Nat×AV)->Nat->AV
 |[]=>tm
 |x::r=>puts (upd tm x.1 x.2) r
def regOps:Code->Array Oper
 |.region _ ops _=>ops
 |_=>#[]
section
variable {N:Nat} {W:Nat->Prop} {pl:Plans} {Q:Post} {QP:PPost} {s:St} {h:AH}
theorem aw_groups{id:Nat}{ops:Array Oper}{draw:Bool}{gs:List (Option (Nat×Bool)×List (Nat×Bool))}(hp:plAt pl id=some ⟨gs,false,[],[]⟩) :
  aw P N W pl (.region id ops draw) Q QP s h=evG P N (fun _=>W) nobody QP ops gs (Q .normal) s h:=by
 simp only[aw,aRegion,hp,evP];rfl
theorem aw_groups_pu{id:Nat}{ops:Array Oper}{draw:Bool}{gs:List (Option (Nat×Bool)×List (Nat×Bool))}{pu:List Nat}(hp:plAt pl id=some ⟨gs,false,[],pu⟩) :
  aw P N W pl (.region id ops draw) Q QP s h=evG P N (puW pu fun _=>W) nobody QP ops gs (Q .normal) s h:=by
 simp only[aw,aRegion,hp,evP]
variable {ops:Array Oper} {K:St->AH->Prop} {is:List (Nat×Bool)} {gs:List (Option (Nat×Bool)×List (Nat×Bool))}
end
def ldk(o:Option AO)(off:Nat)(K:AV->Prop):Prop:=
 match o with
 |some o=>(match o.kind with |.row=>True |_=>False)/\(match o.cells[off]? with |some c=>K c |none=>False)
 |none=>False
theorem lLd_f{n:Option Nat}{id off:Nat}{h:AH}{K:AV->Nat->Prop}:lLd (some false) n (.ptr id off) h K=ldk (h.obj id) off (fun v=>K v id):=by
 simp only[lLd,ldk]
 apply propext
 constructor
 ·rintro⟨o,c,⟨h1,h2,h3⟩,h4⟩
  rw[h1];simp only[h2,h3];exact⟨trivial,h4⟩
 ·intro hh
  cases ho:h.obj id with
  |none=>rw[ho]at hh;exact hh.elim
  |some o=>
   rw[ho]at hh
   obtain⟨h1,h2⟩:=hh
   cases hk:o.kind with
   |row=>
    cases hc:o.cells[off]? with
    |none=>rw[hc]at h2;exact h2.elim
    |some c=>rw[hc]at h2;exact⟨o,c,⟨rfl,hk,hc⟩,h2⟩
   |iter s p=>rw[hk]at h1;exact h1.elim
   |map l=>rw[hk]at h1;exact h1.elim
   |glob b ob=>rw[hk]at h1;exact h1.elim
def cellK(c:Option AV)(K:AV->Prop):Prop:=match c with |some c=>K c |none=>False
theorem cellK_some{c:AV}{K:AV->Prop}:cellK (some c) K=K c:=rfl
theorem cellK_none{K:AV->Prop}:cellK none K=False:=rfl
theorem ldk_mk{cells:List AV}{sz:Nat}{ty:TypeId}{ro:Bool}{off:Nat}{K:AV->Prop}:ldk (some { cells:=cells,sz:=sz,ty:=ty,ro:=ro,kind:=.row }) off K=cellK cells[off]? K:=by
 unfold ldk cellK;simp
def ldnk(o:Option AO)(off n:Nat)(K:AV->Prop):Prop:=
 match o with
 |some o=>(match o.kind with |.row=>True |_=>False)/\off+n<=o.cells.length/\K (.agg ((o.cells.drop off).take n))
 |none=>False
theorem lLdn_f{n:Nat}{id off:Nat}{h:AH}{K:AV->Nat->Prop}:lLd (some true) (some n) (.ptr id off) h K=ldnk (h.obj id) off n (fun v=>K v id):=by
 simp only[lLd,ldnk]
 apply propext
 constructor
 ·rintro⟨o,⟨h1,h2,h3⟩,h4⟩
  rw[h1];simp only[h2];exact⟨trivial,h3,h4⟩
 ·intro hh
  cases ho:h.obj id with
  |none=>rw[ho]at hh;exact hh.elim
  |some o=>
   rw[ho]at hh
   obtain⟨h1,h2,h3⟩:=hh
   cases hk:o.kind with
   |row=>exact⟨o,⟨rfl,hk,h2⟩,h3⟩
   |iter s p=>rw[hk]at h1;exact h1.elim
   |map l=>rw[hk]at h1;exact h1.elim
   |glob b ob=>rw[hk]at h1;exact h1.elim
theorem ldnk_mk{cells:List AV}{sz:Nat}{ty:TypeId}{ro:Bool}{off n:Nat}{K:AV->Prop}:ldnk (some { cells:=cells,sz:=sz,ty:=ty,ro:=ro,kind:=.row }) off n K=(off+n<=cells.length/\K (.agg ((cells.drop off).take n))):=by
 unfold ldnk;simp
theorem pNil_ptr{i o:Nat}{K:AV->Prop}:pNil (.ptr i o) K=K (.ptr i o):=rfl
theorem pFld_ptr{d i o:Nat}{K:AV->Prop}:pFld (some d) (.ptr i o) K=K (.ptr i (o+d)):=rfl
theorem pPick_b{t:Bool}{a b:AV}{K:AV->Prop}:pPick (.sc (.bool t)) a b K=K (if t then a else b):=rfl
theorem pIxA_sl{sz id off len:Nat}{k:IntKind}{n:Int}{K:AV->Prop}:pIxA (some (sz,none)) (.sl id off len) (.sc (.int k n)) K=((0<=n/\n<(len:Int))/\K (.ptr id (off+n.toNat*sz))):=rfl
theorem pIxA_ar{sz len id off:Nat}{k:IntKind}{n:Int}{K:AV->Prop}:pIxA (some (sz,some len)) (.ptr id off) (.sc (.int k n)) K=((0<=n/\n<(len:Int))/\K (.ptr id (off+n.toNat*sz))):=rfl
theorem pExt_tup{l:List AV}{k:Nat}{K:AV->Prop}:pExt (.tup l) k K=cellK l[k]? K:=by
 simp only[pExt,cellK]
 apply propext
 constructor
 ·rintro⟨c,h1,h2⟩;rw[h1];exact h2
 ·intro hh;cases hc:l[k]? with
  |none=>rw[hc]at hh;exact hh.elim
  |some c=>rw[hc]at hh;exact⟨c,rfl,hh⟩
theorem pUn_not{t:Bool}{K:AV->Prop}:pUn .not (.sc (.bool t)) K=K (.sc (.bool !t)):=rfl
theorem pUn_neg{k:IntKind}{n:Int}{K:AV->Prop}:pUn .neg (.sc (.int k n)) K=K (.sc (.int k (k.wrap (0-n)))):=rfl
theorem pLen_sl{id off len:Nat}{K:AV->Prop}:pLen (.sl id off len) K=K (.sc (.int .i64 len)):=rfl
theorem pLen_nil{a:Option Addr}{n c:Nat}{K:AV->Prop}:pLen (.sc (.slice a n c)) K=K (.sc (.int .i64 n)):=rfl
theorem pLen_s{s:ByteArray}{K:AV->Prop}:pLen (.sc (.string s)) K=K (.sc (.int .i64 s.size)):=rfl
theorem strArg_s{s:ByteArray}:strArg (.sc (.string s))=true:=rfl
theorem strArg_sl{id off len:Nat}:strArg (.sl id off len)=false:=rfl
theorem strArg_nil{a:Option Addr}{n c:Nat}:strArg (.sc (.slice a n c))=false:=rfl
theorem pMkI_f{t:TypeId}{x:AV}{K:AV->Prop}:pMkI (some false) t x K=K (.ifc t x):=rfl
theorem pCnv_i{k k':IntKind}{n:Int}{K:AV->Prop}:pCnv (some k) (.sc (.int k' n)) K=K (.sc (.int k (k.wrap n))):=rfl
theorem pTA_ifc{T t:TypeId}{ok:Bool}{v:AV}{K:AV->Prop}:pTA (some false) T ok (.ifc t v) K=(t=T/\K (if ok then .tup [v,.sc (.bool true)] else v)):=rfl
theorem aIf_b{t:Bool}{a b:Prop}:aIf (.sc (.bool t)) a b=((t=true->a)/\(t=false->b)):=rfl
theorem aIg_b{want t:Bool}{a b:Prop}:aIg want (.sc (.bool t)) a b=((t=want->a)/\(t=(!want)->b)):=rfl
theorem aIg_u{want:Bool}{a b:Prop}:aIg want noA a b=b:=rfl
theorem pIxS_s{s:ByteArray}{k:IntKind}{n:Int}{K:AV->Prop}:pIxS true (.sc (.string s)) (.sc (.int k n)) K=∃c:UInt8,(0<=n/\s[n.toNat]?=some c)/\K (.sc (.int .u8 c.toNat)):=rfl
section
variable {t:TypeId} {cst:Bool} {k:IntKind} {a b:Int} {x y:ByteArray} {K:AV->Prop}
theorem pBin_add:pBin P .add t cst (.sc (.int k a)) (.sc (.int k b)) K=K (.sc (.int k (k.wrap (a+b)))):=by simp[pBin]
theorem pBin_sub:pBin P .sub t cst (.sc (.int k a)) (.sc (.int k b)) K=K (.sc (.int k (k.wrap (a-b)))):=by simp[pBin]
theorem pBin_mul:pBin P .mul t cst (.sc (.int k a)) (.sc (.int k b)) K=K (.sc (.int k (k.wrap (a*b)))):=by simp[pBin]
theorem pBin_eql:pBin P .eql t cst (.sc (.int k a)) (.sc (.int k b)) K=K (.sc (.bool (a==b))):=by simp[pBin]
theorem pBin_neq:pBin P .neq t cst (.sc (.int k a)) (.sc (.int k b)) K=K (.sc (.bool (a != b))):=by simp[pBin]
theorem pBin_lss:pBin P .lss t cst (.sc (.int k a)) (.sc (.int k b)) K=K (.sc (.bool (decide (a<b)))):=by simp[pBin]
theorem pBin_leq:pBin P .leq t cst (.sc (.int k a)) (.sc (.int k b)) K=K (.sc (.bool (decide (a<=b)))):=by simp[pBin]
theorem pBin_gtr:pBin P .gtr t cst (.sc (.int k a)) (.sc (.int k b)) K=K (.sc (.bool (decide (a > b)))):=by simp[pBin]
theorem pBin_geq:pBin P .geq t cst (.sc (.int k a)) (.sc (.int k b)) K=K (.sc (.bool (decide (a>=b)))):=by simp[pBin]
theorem pBin_seql:pBin P .eql t cst (.sc (.string x)) (.sc (.string y)) K=K (.sc (.bool (decide (x=y)))):=rfl
theorem pBin_sneq:pBin P .neq t cst (.sc (.string x)) (.sc (.string y)) K=K (.sc (.bool (!decide (x=y)))):=rfl
theorem pBin_sadd:pBin P .add t cst (.sc (.string x)) (.sc (.string y)) K=(x.size+y.size<9223372036854775808/\K (.sc (.string (x++y)))):=rfl
end
theorem flat_get{α:Type}{f:α->List AV}{k:Nat}(hf:∀x,(f x).length=k):∀(l:List α)(i j:Nat),j<k->(l.flatMap f)[i*k+j]?=(l[i]?).bind fun x=>(f x)[j]?
 |[],i,j,_=>by simp
 |x::l,0,j,hj=>by simp[List.getElem?_append_left,hf,hj]
 |x::l,i+1,j,hj=>by
  rw[List.flatMap_cons,List.getElem?_append_right (by rw[hf,Nat.add_mul];omega),hf]
  have:(i+1)*k+j-k=i*k+j:=by rw[Nat.add_mul];omega
  rw[this,flat_get hf l i j hj];simp
theorem flat_len{α:Type}{f:α->List AV}{k:Nat}(hf:∀x,(f x).length=k):∀(l:List α),(l.flatMap f).length=l.length*k
 |[]=>by simp
 |x::l=>by rw[List.flatMap_cons,List.length_append,hf,flat_len hf l,List.length_cons,Nat.add_mul];omega
theorem flat_drop{α:Type}{f:α->List AV}{k:Nat}(hf:∀x,(f x).length=k):∀(l:List α)(i:Nat)(x:α),l[i]?=some x->((l.flatMap f).drop (i*k)).take k=f x
 |[],i,x,h=>by simp at h
 |y::l,0,x,h=>by
  simp only[zA,zQ]at h;subst h
  simp only[Nat.zero_mul,List.drop_zero,List.flatMap_cons]
  rw[List.take_append,hf,Nat.sub_self,List.take_zero,List.append_nil,List.take_of_length_le (by rw[hf];exact zU _)]
 |y::l,i+1,x,h=>by
  simp only[zB]at h
  rw[List.flatMap_cons,List.drop_append,hf]
  have h1:(i+1)*k-k=i*k:=by rw[Nat.add_mul];omega
  rw[h1,List.drop_eq_nil_of_le (by rw[hf,Nat.add_mul];omega),List.nil_append]
  exact flat_drop hf l i x h
theorem wrap_in{n:Int}(h0:-9223372036854775808<=n)(h1:n<=9223372036854775807):IntKind.i64.wrap n=n:=IntWalk.i64_in _ (by omega)
end
section
variable {P:Program}
abbrev KT:=St->AH->Prop
abbrev Grps:=List (Option (Nat×Bool)×List (Nat×Bool))
def isAt(gs:Grps)(i:Nat):List (Nat×Bool):=(gs[i]?.map (·.2)).getD []
section
variable {N:Nat} {W:Nat->Prop} {pl:Plans} {Q:Post} {QP:PPost} {s:St} {h:AH} {c a b:Code} {T:Prop}
theorem nd_seq(e:c=.seq a b){C:KT}(hb:∀s h,aw P N W pl b Q QP s h=C s h)(ha:aw P N W pl a (thenQ C Q) QP s h=T):aw P N W pl c Q QP s h=T:=by
 subst e
 have:aw P N W pl b Q QP=C:=funext fun s=>funext fun h=>hb s h
 subst this;exact ha
theorem nd_cond{o:Operand}{A B:Prop}(e:c=.cond o a b)(hA:aw P N W pl a Q QP s h=A)(hB:aw P N W pl b Q QP s h=B)(ht:aIf (aev s o) A B=T):aw P N W pl c Q QP s h=T:=by
 subst e hA hB;exact ht
theorem nd_block{id:Nat}(e:c=.block id a)(ha:aw P N W pl a (blockQ id Q) QP s h=T):aw P N W pl c Q QP s h=T:=by subst e;exact ha
theorem nd_loop(e:c=.loop a):aw P N W pl c Q QP s h=aLoop (aw P N W pl a) Q QP s h:=by subst e;rfl
variable {ops:Array Oper} {K:KT} {is:List (Nat×Bool)} {gs rest:Grps}
theorem nd_groups{id:Nat}{draw:Bool}(e:c=.region id ops draw)(hp:plAt pl id=some ⟨gs,false,[],[]⟩)(hr:evG P N (fun _=>W) nobody QP ops gs (Q .normal) s h=T):aw P N W pl c Q QP s h=T:=by
 subst e;rw[aw_groups hp];exact hr
variable {Wf:Nat->Nat->Prop}
theorem nd_g(e:gs=(none,is)::rest){C:KT}(hr:∀s h,evG P N Wf nobody QP ops rest K s h=C s h)(ha:evI P N Wf nobody QP ops is C s h=T):evG P N Wf nobody QP ops gs K s h=T:=by
 have:evG P N Wf nobody QP ops rest K=C:=funext fun s=>funext fun h=>hr s h
 subst e this;exact ha
theorem nd_gw{j d:Nat}{want:Bool}(e:gs=(some (j,want),is)::rest)(hd:slotOf ops j=some d){C:KT}(hr:∀s h,evG P N Wf nobody QP ops rest K s h=C s h)
  (ha:aIg want (s.tm d) (evI P N Wf nobody QP ops is C s h) (C (skI N ops is s) h)=T):evG P N Wf nobody QP ops gs K s h=T:=by
 have:evG P N Wf nobody QP ops rest K=C:=funext fun s=>funext fun h=>hr s h
 subst e this
 simp only[evG,hd]
 exact ha
end
end
section
attribute [simp] puts upd s0 pNil_ptr pFld_ptr pPick_b pIxA_sl pIxA_ar pExt_tup pUn_not pUn_neg pLen_sl pLen_nil pLen_s strArg_s strArg_sl strArg_nil pMkI_f pCnv_i pTA_ifc aIf_b aIg_b aIg_u pIxS_s pBin_add pBin_sub pBin_mul pBin_eql pBin_neq pBin_lss pBin_leq pBin_gtr pBin_geq pBin_seql pBin_sneq pBin_sadd lLd_f ldk_mk lLdn_f ldnk_mk cellK_some cellK_none bodyQ bodyP aRes tupOf thenQ blockQ noGotoQ
end
section
abbrev nilS:AV:=.sc (.slice none 0 0)
def SlL{α:Type}(f:α->List AV)(sz:Nat)(ty:TypeId)(h:AH)(x:AV)(l:List α):Prop:=
 (x=nilS/\l=[])\/∃id,x=.sl id 0 l.length/\h.obj id=some (mkO (l.flatMap f) sz ty)
def InS(S:Nat->Prop)(x:AV):Prop:=∀id off n,x=.sl id off n->S id
theorem SlL.nil{α:Type}{f:α->List AV}{sz:Nat}{ty:TypeId}{h:AH}:SlL f sz ty h nilS []:=.inl ⟨rfl,rfl⟩
theorem SlL.frame{α:Type}{f:α->List AV}{sz:Nat}{ty:TypeId}{h h':AH}{x:AV}{l:List α}(hl:SlL f sz ty h x l)(hf:∀id off n,x=.sl id off n->h'.obj id=h.obj id):SlL f sz ty h' x l:=by
 rcases hl with hl |⟨id,hx,ho⟩
 ·exact .inl hl
 ·exact .inr ⟨id,hx,by rw[hf id _ _ hx];exact ho⟩
theorem SlL.len{α:Type}{f:α->List AV}{sz:Nat}{ty:TypeId}{h:AH}{x:AV}{l:List α}(hl:SlL f sz ty h x l){K:AV->Prop}:(strArg x=false)/\pLen x K=K (.sc (.int .i64 l.length)):=by
 rcases hl with⟨rfl,rfl⟩ |⟨id,rfl,ho⟩
 ·exact⟨rfl,rfl⟩
 ·exact⟨rfl,rfl⟩
theorem aFill_one{z cs:List AV}(hz:cs.length=z.length):putCells z 0 cs=cs:=by
 have key:∀(cs z p:List AV),cs.length=z.length->putCells (p++z) p.length cs=p++cs:=by
  intro cs
  induction cs with
  |nil=>intro z p h;have:z=[]:=List.length_eq_zero_iff.1 (by simpa using h.symm);subst this;rfl
  |cons c cs ih=>
   intro z p h
   cases z with
   |nil=>simp at h
   |cons a z=>
    simp only[putCells]
    have:=ih z (p++[c]) (by simpa using h)
    simp only[List.append_assoc,List.singleton_append,List.length_append,List.length_singleton]at this
    rw[show(p++a::z).set p.length c=p++c::z from by simp]
    exact this
 simpa using key cs z [] hz
end
section
theorem put_mk{h:AH}{id off:Nat}{cs cells:List AV}{sz:Nat}{ty:TypeId}(ho:h.obj id=some { cells:=cells,sz:=sz,ty:=ty }):(h.put id off cs).obj id=some { cells:=putCells cells off cs,sz:=sz,ty:=ty }:=by rw[AH.put_at ho]
structure Fr (h h':AH) (S:Nat->Prop):Prop where
 next:h.next<=h'.next
 keep:∀id,id<h.next->¬S id->h'.obj id=h.obj id
theorem Fr.refl{h:AH}{S:Nat->Prop}:Fr h h S:=⟨zU _,fun _ _ _=>rfl⟩
theorem Fr.trans{h h1 h2:AH}{S:Nat->Prop}(a:Fr h h1 S)(b:Fr h1 h2 fun id=>S id\/h.next<=id):Fr h h2 S:=
 ⟨zR a.next b.next,fun id h1 h2=>by rw[b.keep id (Nat.lt_of_lt_of_le h1 a.next) (fun hh=>hh.elim h2 (fun hh=>by omega)),a.keep id h1 h2]⟩
theorem Fr.mono{h h1:AH}{S S':Nat->Prop}(a:Fr h h1 S)(b:∀id,S id->S' id):Fr h h1 S':=⟨a.next,fun id h1 h2=>a.keep id h1 fun h=>h2 (b id h)⟩
theorem Fr.alloc{h h1:AH}{S:Nat->Prop}(a:Fr h h1 S)(o:AO):Fr h (h1.alloc o) S:=⟨Nat.le_succ_of_le a.next,fun id hi hs=>by rw[AH.alloc_old (Nat.lt_of_lt_of_le hi a.next)];exact a.keep id hi hs⟩
theorem Fr.put{h h1:AH}{S:Nat->Prop}(a:Fr h h1 S){id off:Nat}{cs:List AV}(hs:S id\/h.next<=id):Fr h (h1.put id off cs) S:=
 ⟨a.next,fun i hi hn=>by rw[AH.put_old (fun e=>by subst e;exact hs.elim hn (fun h=>by omega))];exact a.keep i hi hn⟩
theorem Fr.obj{h h1:AH}{S:Nat->Prop}(a:Fr h h1 S){id:Nat}{o:AO}(ho:h.obj id=some o)(hs:¬S id):h1.obj id=some o:=by rw[a.keep id (h.lt _ _ ho) hs,ho]
theorem eAlloc_d{z:List Value}{sz:Nat}{t:TypeId}{h:AH}{K:AV->AH->Prop}:eAlloc (some z) sz t h K=((z.all (·.oneCell')=true)/\K (.ptr h.next 0) (h.alloc (mkO (z.map .sc) sz t))):=rfl
theorem aPan_ifc{t:TypeId}{v:AV}{h:AH}{KP:AV->AH->Prop}:aPan (.ifc t v) h KP=KP (.ifc t v) h:=rfl
def stk(o:Option AO)(c:Option (List AV))(n off:Nat)(w:Prop)(K:List AV->Prop):Prop:=
 match o,c with
 |some o,some cs=>((match o.kind with |.row=>True |_=>False)/\o.ro=false/\w/\cs.all oneA=true/\cs.length=n/\off+n<=o.cells.length)/\K cs
 |_,_=>False
theorem eStore_f{n id off:Nat}{x:AV}{h:AH}{W:Nat->Prop}{K:AH->Prop}:eStore (some n) (.ptr id off) x h W K=stk (h.obj id) (avCells x) n off (W id) (fun cs=>K (h.put id off cs)):=by
 apply propext
 simp only[eStore,stk]
 constructor
 ·rintro⟨o,cs',⟨h1,h2,h3,h4,h5,h6,h7,h8⟩,h9⟩
  rw[h2,h5];simp only[h3]
  exact⟨⟨trivial,h4,h1,h6,h7,h8⟩,h9⟩
 ·intro hh
  cases ho:h.obj id with
  |none=>rw[ho]at hh;exact hh.elim
  |some o=>
   cases hc:avCells x with
   |none=>rw[ho,hc]at hh;exact hh.elim
   |some cs=>
    rw[ho,hc]at hh
    obtain⟨⟨h3,h4,h1,h6,h7,h8⟩,h9⟩:=hh
    refine⟨o,cs,⟨h1,rfl,?_,h4,rfl,h6,h7,h8⟩,h9⟩
    cases hk:o.kind with
    |row=>rfl
    |iter s p=>rw[hk]at h3;exact h3.elim
    |map l=>rw[hk]at h3;exact h3.elim
    |glob b ob=>rw[hk]at h3;exact h3.elim
theorem stk_mk{cells cs:List AV}{sz n off:Nat}{ty:TypeId}{w:Prop}{K:List AV->Prop}:stk (some { cells:=cells,sz:=sz,ty:=ty }) (some cs) n off w K=((w/\cs.all oneA=true/\cs.length=n/\off+n<=cells.length)/\K cs):=by simp[stk]
theorem avC_agg{l:List AV}:avCells (.agg l)=some l:=rfl
theorem avC_int{k:IntKind}{n:Int}:avCells (.sc (.int k n))=some [.sc (.int k n)]:=rfl
theorem avC_str{s:ByteArray}:avCells (.sc (.string s))=some [.sc (.string s)]:=rfl
theorem avC_bool{b:Bool}:avCells (.sc (.bool b))=some [.sc (.bool b)]:=rfl
theorem avC_sln{a:Option Addr}{n c:Nat}:avCells (.sc (.slice a n c))=some [.sc (.slice a n c)]:=rfl
theorem avC_pn{a:Option Addr}:avCells (.sc (.pointer a))=some [.sc (.pointer a)]:=rfl
theorem avC_ni:avCells (.sc .nilIface)=some [.sc .nilIface]:=rfl
theorem avC_ptr{i o:Nat}:avCells (.ptr i o)=some [.ptr i o]:=rfl
theorem avC_sl{i o n:Nat}:avCells (.sl i o n)=some [.sl i o n]:=rfl
theorem avC_ifc{t:TypeId}{v:AV}:avCells (.ifc t v)=some [.ifc t v]:=rfl
theorem avC_fn{f:Fn}{a b:List AV}:avCells (.fn f a b)=some [.fn f a b]:=rfl
theorem put_row{h:AH}{id off:Nat}{cs cells:List AV}{sz:Nat}{ty:TypeId}(ho:h.obj id=some { cells:=cells,sz:=sz,ty:=ty }):(h.put id off cs).obj id=some { cells:=putCells cells off cs,sz:=sz,ty:=ty }:=by rw[AH.put_at ho]
attribute [simp] eAlloc_d aPan_ifc pBld aFill putCells Value.oneCell' oneA eStore_f stk_mk avC_agg avC_int avC_str avC_bool avC_sln avC_pn avC_ni avC_ptr avC_sl avC_ifc avC_fn
end
section
variable {P:Program} {N:Nat} {W:Nat->Prop}
def evS(P:Program)(N:Nat)(W:Nat->Prop)(ops:Array Oper):List Nat->(St->AH->Prop)->(St->AV->AH->Prop)->St->AH->Prop
 |[],K,_,s,h=>K s h
 |i::r,K,KP,s,h=>match ops[i]? with
  |some o=>match o.guard with
   |none=>match isQ o.op with
    |true=>qOp P o.op (aev s) h fun v _=>evS P N W ops r K KP (s.put N o.dst v) h
    |false=>eOp P W o.op (aev s) s.ds h (fun v ds' h'=>evS P N W ops r K KP (({ s with ds:=ds' }:St).put N o.dst v) h') (KP s)
   |some _=>False
  |none=>False
theorem evS_ok{ops:Array Oper}{K:St->AH->Prop}{KP:St->AV->AH->Prop}{E0:Env}{h0:AH}{w0:World}{Qc:Exit->Act->World->Prop}(hr0:Rel E0 h0 w0)
  (hK:∀s h E w a,K s h->Step E0 h0 W w0 E h w->AR E N s a->Qc .normal a w)
  (hKP:∀s v h E w a u,KP s v h->Step E0 h0 W w0 E h w->AR E N s a->VR E v u->Qc (.panic [{ v:=u,recovered:=false }]) a w) :
  ∀(l:List Nat)(s:St)(h:AH)(E:Env)(w:World)(a:Act),evS P N W ops l K KP s h->Step E0 h0 W w0 E h w->AR E N s a->wpOps P ops Qc l a w
 |[],s,h,E,w,a,hp,hs,ha=>hK s h E w a hp hs ha
 |i::r,s,h,E,w,a,hp,hs,ha=>by
  simp only[evS]at hp
  rw[wpOps_cons]
  split at hp
  ·rename_i o ho
   split at hp
   ·rename_i hg
    have hw:Region.wanted o (yielded ops a.tmps)=true:=by unfold Region.wanted;rw[hg]
    unfold Go.wpOp
    simp only[ho,hw,zV]
    refine .inl ?_
    split at hp
    ·obtain⟨av,u,d,h1,h2,h3,h4⟩:=qOp_ok o hs.rel ha hp
     have:=h4 w (fun _ _ _ _=>rfl)
     unfold Oper.wp
     rw[this,Oper.upon_value]
     exact evS_ok hr0 hK hKP r _ h E w _ h2 hs (ha.put _ h1)
    ·refine eOp_ok o hs.rel ha hp ?_ ?_
     ·intro v ds' E' h' w' a' h1 h2 h3
      exact evS_ok hr0 hK hKP r _ h' E' w' a' h3 (hs.trans hr0 h1 fun _ _ hm=>.inl hm) h2
     ·intro v E' h' w' u h1 h2 h3
      exact hKP s v h' E' w' a u h3 (hs.trans hr0 h1 fun _ _ hm=>.inl hm) (ha.mono h1.env) h2
   ·exact hp.elim
  ·exact hp.elim
variable {E0:Env} {h0:AH} {w0:World} {Qc:Exit->Act->World->Prop} {s:St} {h:AH}
end
section
variable {P:Program}
abbrev VK:=List AV->AH->Prop
def vIter(G:VK->VK):Nat->VK
 |0=>fun _ _=>False
 |n+1=>G (vIter G n)
def vLoop(G:VK->VK):VK:=fun vs h=>∃n,vIter G n vs h
theorem vLoop_of{ι:Type}{G:VK->VK}(I:ι->VK)(μ:ι->Nat)(i:ι){vs:List AV}{h:AH}(h0:I i vs h)
  (step:∀(K:VK) i vs h,I i vs h->(∀i' vs' h',μ i'<μ i->I i' vs' h'->K vs' h')->G K vs h):vLoop G vs h:=by
 have key:∀n i vs h,μ i<n->I i vs h->vIter G n vs h:=by
  intro n
  induction n with
  |zero=>intro i vs h hlt;omega
  |succ n ih=>intro i vs h hlt hi;exact step _ i vs h hi fun i' vs' h' h1 h2=>ih i' vs' h' (by omega) h2
 exact⟨μ i+1,key _ i vs h (by omega) h0⟩
def aResV(P:Program):List ResultVar->List AV->AH->(List AV->Prop)->Prop
 |[],_,_,K=>K []
 |.tmp _::r,v::vs,h,K=>aResV P r vs h fun l=>K (v::l)
 |.cell _ t::r,v::vs,h,K=>lLd (aggOf P t) (szOf P t) v h fun u _=>aResV P r vs h fun l=>K (u::l)
 |_,_,_,_=>False
def slotR:ResultVar->Nat
 |.tmp t=>t
 |.cell a _=>a
theorem aRes_v{tm:Nat->AV}{ds:List ADef}{h:AH}:∀(rs:List ResultVar)(K:List AV->Prop),aRes P rs ⟨tm,ds⟩ h K=aResV P rs (rs.map fun r=>tm (slotR r)) h K
 |[],_=>rfl
 |.tmp t::rs,K=>by
  simp only[aRes,List.map_cons,aResV,slotR]
  exact aRes_v rs _
 |.cell a t::rs,K=>by
  simp only[aRes,List.map_cons,aResV,slotR]
  congr 1
  funext v _
  exact aRes_v rs _
def retV(P:Program)(rs:List ResultVar)(R:AE->AH->Prop):VK:=fun vs h=>aResV P rs vs h fun l=>R (.ret (tupOf l)) h
theorem bodyQ_v{rs:List ResultVar}{R:AE->AH->Prop}{tm:Nat->AV}{h:AH}:bodyQ P rs R .ret ⟨tm,[]⟩ h=retV P rs R (rs.map fun r=>tm (slotR r)) h:=by
 show([]=[]/\_)=_
 rw[aRes_v]
 exact propext ⟨fun h=>h.2,fun h=>⟨rfl,h⟩⟩
theorem bodyQ_n{rs:List ResultVar}{R:AE->AH->Prop}{tm:Nat->AV}{h:AH}:bodyQ P rs R .normal ⟨tm,[]⟩ h=retV P rs R (rs.map fun r=>tm (slotR r)) h:=bodyQ_v
attribute [simp] retV aResV
end
section
variable {P:Program} {N:Nat} {W:Nat->Prop} {pl:Plans}
def noDefO(o:Oper):Bool:=match o.op with |.defer ..=>false |_=>true
def noDef:Code->Bool
 |.region _ ops _=>ops.all noDefO
 |.seq a b |.cond _ a b=>noDef a&&noDef b
 |.block _ c |.loop c |.scope c=>noDef c
 |_=>true
theorem eOp_D{W:Nat->Prop}{o:Oper}(ho:noDefO o=true){ρ:Operand->AV}{ds:List ADef}{h:AH}{K K':AV->List ADef->AH->Prop}{KP KP':AV->AH->Prop}(hk:∀v h',K v ds h'->K' v ds h')(hkp:∀v h',KP v h'->KP' v h')
  (hp:eOp P W o.op ρ ds h K KP):eOp P W o.op ρ ds h K' KP':=by
 unfold noDefO at ho
 revert ho hp
 cases o.op<;>intro ho hp<;>simp only[eOp]at hp ⊢<;>try exact hp.elim
 case alloc=>exact eAlloc_mono (fun v h'=>hk v h') hp
 case box=>exact eBox_mono (fun v h'=>hk v h') hp
 case store=>exact eStore_mono (fun h'=>hk noA h') hp
 case buildSlice=>exact eBSl_mono (fun v h'=>hk v h') hp
 case makeSlice=>exact eMk_mono (fun v h'=>hk v h') hp
 case makeMap t r=>
  cases r<;>simp only at hp ⊢
  exact eMkM_mono (fun v h'=>hk v h') hp
 case mapUpdate=>exact eMSet_mono (fun h'=>hk noA h') hp
 case insert=>exact eMSet_mono (fun h'=>hk noA h') hp
 case range=>exact eRange_mono (fun v h'=>hk v h') hp
 case next x b=>
  cases b<;>simp only at hp ⊢
  exact eNext_mono (fun v h'=>hk v h') hp
 case panic=>unfold aPan at *;split at hp<;>simp_all
 case defer c=>cases ho
 case call c=>
  split at hp
  ·exact eApp_mono (fun v h'=>hk v h') hp
  split at hp
  ·exact eAppS_mono (fun v h'=>hk v h') hp
  ·split at hp
   ·exact aGo_mono (fun v h'=>hk v h') hkp hp
   ·exact hp.elim
theorem put_ds(s:St)(d:Option Nat)(v:AV):(s.put N d v).ds=s.ds:=by
 unfold St.put
 split
 ·rfl
 ·split<;>rfl
section
variable {ds:List ADef} {QP QP':PPost}
theorem aStep_D(hqp:∀v h,QP ds v h->QP' ds v h){Hd:Nat->Prop}{held:Bool}{o:Oper}(ho:noDefO o=true){K K':St->AH->Prop}(hk:∀s h,s.ds=ds->K s h->K' s h){s:St}{h:AH}(hs:s.ds=ds)(hp:aStep P N W Hd QP held o K s h) :
  aStep P N W Hd QP' held o K' s h:=by
 unfold aStep at *
 split at hp
 ·refine qOp_mono (fun v d _ hh=>?_) hp
  unfold hok at *
  split at hh
  ·exact hk _ _ (by rw[put_ds];exact hs) hh
  ·exact⟨hh.1,hk _ _ (by rw[put_ds];exact hs) hh.2⟩
 ·exact eOp_D ho (fun v h'=>hk _ _ (by rw[put_ds];exact hs)) (fun v h'=>by rw[hs];exact hqp v h') hp
theorem evI_D(hqp:∀v h,QP ds v h->QP' ds v h){Wf:Nat->Nat->Prop}{Hd:Nat->Nat->Prop}{ops:Array Oper}(ho:ops.all noDefO=true):∀(is:List (Nat×Bool)){K K':St->AH->Prop},(∀s h,s.ds=ds->K s h->K' s h)->∀{s:St}{h:AH},s.ds=ds->evI P N Wf Hd QP ops is K s h->evI P N Wf Hd QP' ops is K' s h
 |[],_,_,hk,_,_,hs,hp=>hk _ _ hs hp
 |x::is,K,K',hk,s,h,hs,hp=>by
  simp only[evI]at hp ⊢
  split at hp
  ·rename_i o hx
   exact aStep_D hqp (Array.all_eq_true_iff_forall_mem.1 ho o (Array.mem_of_getElem? hx)) (fun s h hs=>evI_D hqp ho is hk hs) hs hp
  ·exact hp.elim
theorem skI_ds{ops:Array Oper}:∀(is:List (Nat×Bool))(s:St),(skI N ops is s).ds=s.ds
 |[],_=>rfl
 |x::is,s=>by simp only[skI];rw[skI_ds is,put_ds]
theorem evG_D(hqp:∀v h,QP ds v h->QP' ds v h){Wf:Nat->Nat->Prop}{Hd:Nat->Nat->Prop}{ops:Array Oper}(ho:ops.all noDefO=true):∀(gs:List (Option (Nat×Bool)×List (Nat×Bool))){K K':St->AH->Prop},(∀s h,s.ds=ds->K s h->K' s h)->∀{s:St}{h:AH},s.ds=ds->evG P N Wf Hd QP ops gs K s h->evG P N Wf Hd QP' ops gs K' s h
 |[],_,_,hk,_,_,hs,hp=>hk _ _ hs hp
 |(none,is)::gs,K,K',hk,s,h,hs,hp=>by
  simp only[evG]at hp ⊢
  exact evI_D hqp ho is (fun s h hs=>evG_D hqp ho gs hk hs) hs hp
 |(some (j,want),is)::gs,K,K',hk,s,h,hs,hp=>by
  simp only[evG]at hp ⊢
  split at hp
  ·exact aIg_mono (evI_D hqp ho is (fun s h hs=>evG_D hqp ho gs hk hs) hs) (evG_D hqp ho gs hk (by rw[skI_ds];exact hs)) hp
  ·exact hp.elim
mutual
theorem evW_D(hqp:∀v h,QP ds v h->QP' ds v h){Wf:Nat->Nat->Prop}{Hd:Nat->Nat->Prop}{ops:Array Oper}(ho:ops.all noDefO=true){K K':St->AH->Prop}(hk:∀s h,s.ds=ds->K s h->K' s h):∀(w:Way){s:St}{h:AH},s.ds=ds->evW P N Wf Hd QP ops w K s h->evW P N Wf Hd QP' ops w K' s h
 |.mk path [],s,h,hs,hp=>by
  unfold evW at hp ⊢
  exact evI_D hqp ho path hk hs hp
 |.mk path (w::ws),s,h,hs,hp=>by
  unfold evW at hp ⊢
  exact evI_D hqp ho path (fun s h hs=>evWs_D hqp ho hk (w::ws) hs) hs hp
termination_by w=>SizeOf.sizeOf w
theorem evWs_D(hqp:∀v h,QP ds v h->QP' ds v h){Wf:Nat->Nat->Prop}{Hd:Nat->Nat->Prop}{ops:Array Oper}(ho:ops.all noDefO=true){K K':St->AH->Prop}(hk:∀s h,s.ds=ds->K s h->K' s h):∀(ws:List Way){s:St}{h:AH},s.ds=ds->evWs P N Wf Hd QP ops ws K s h->evWs P N Wf Hd QP' ops ws K' s h
 |[],s,h,hs,hp=>by unfold evWs;trivial
 |w::r,s,h,hs,hp=>by
  unfold evWs at hp ⊢
  exact⟨evW_D hqp ho hk w hs hp.1,evWs_D hqp ho hk r hs hp.2⟩
termination_by ws=>SizeOf.sizeOf ws
end
theorem evP_D(hqp:∀v h,QP ds v h->QP' ds v h){Wf:Nat->Nat->Prop}{Hd:Nat->Nat->Prop}{ops:Array Oper}(ho:ops.all noDefO=true){K K':St->AH->Prop}(hk:∀s h,s.ds=ds->K s h->K' s h){s:St}{h:AH}{p:Plan}(hs:s.ds=ds)(hp:evP P N Wf Hd QP ops p K s h):evP P N Wf Hd QP' ops p K' s h:=by
 unfold evP at *
 split at hp
 ·exact evG_D hqp ho _ hk hs hp
 ·exact evG_D hqp ho _ (fun s h hs=>evWs_D hqp ho hk _ hs) hs hp
theorem aRegion_D(hqp:∀v h,QP ds v h->QP' ds v h){ops:Array Oper}(ho:ops.all noDefO=true){id:Nat}{K K':St->AH->Prop}(hk:∀s h,s.ds=ds->K s h->K' s h){s:St}{h:AH}(hs:s.ds=ds)(hp:aRegion P N W QP pl id ops K s h) :
  aRegion P N W QP' pl id ops K' s h:=by
 unfold aRegion at *
 split at hp
 ·exact evI_D hqp ho _ hk hs hp
 ·split at hp
  ·exact evP_D hqp ho hk hs hp
  ·obtain⟨Hd,h1,h2⟩:=hp;exact⟨Hd,h1,evP_D hqp ho hk hs h2⟩
theorem thenQ_D{K K':St->AH->Prop}{Q Q':Post}(hk:∀s h,s.ds=ds->K s h->K' s h)(hq:∀x s h,s.ds=ds->Q x s h->Q' x s h):∀x s h,s.ds=ds->thenQ K Q x s h->thenQ K' Q' x s h:=by
 intro x s h hs hp
 cases x
 ·exact hk _ _ hs hp
 ·exact hq (.exit _) _ _ hs hp
 ·exact hq (.goto _) _ _ hs hp
 ·exact hq .ret _ _ hs hp
theorem aw_D(hqp:∀v h,QP ds v h->QP' ds v h):∀(c:Code){Q Q':Post},noDef c=true->(∀x s h,s.ds=ds->Q x s h->Q' x s h)->∀{s:St}{h:AH},s.ds=ds->aw P N W pl c Q QP s h->aw P N W pl c Q' QP' s h
 |.skip,_,_,_,hq,_,_,hs,hp=>hq _ _ _ hs hp
 |.label _,_,_,_,hq,_,_,hs,hp=>hq _ _ _ hs hp
 |.exit _,_,_,_,hq,_,_,hs,hp=>hq _ _ _ hs hp
 |.goto _,_,_,_,hq,_,_,hs,hp=>hq _ _ _ hs hp
 |.ret,_,_,_,hq,_,_,hs,hp=>hq _ _ _ hs hp
 |.rangeFunc ..,_,_,_,_,_,_,_,hp=>hp.elim
 |.refuse _,_,_,_,_,_,_,_,hp=>hp.elim
 |.region _ ops _,_,_,hd,hq,_,_,hs,hp=>aRegion_D hqp hd (hq .normal) hs hp
 |.seq a b,_,_,hd,hq,_,_,hs,hp=>by
  simp only[noDef,yC]at hd
  exact aw_D hqp a hd.1 (thenQ_D (fun _ _ hs=>aw_D hqp b hd.2 hq hs) hq) hs hp
 |.cond c a b,_,_,hd,hq,_,_,hs,hp=>by
  simp only[noDef,yC]at hd
  exact aIf_mono (aw_D hqp a hd.1 hq hs) (aw_D hqp b hd.2 hq hs) hp
 |.block id c,Q,Q',hd,hq,_,_,hs,hp=>by
  refine aw_D hqp c (Q:=blockQ id Q) hd ?_ hs hp
  intro x s h hs hp
  cases x with
  |exit j=>
   simp only[blockQ]at hp ⊢
   split at hp
   ·rename_i he;rw[zX he];exact hq _ _ _ hs hp
   ·rename_i he;rw[zW he];exact hq _ _ _ hs hp
  |normal=>exact hq .normal _ _ hs hp
  |goto l=>exact hq (.goto l) _ _ hs hp
  |ret=>exact hq .ret _ _ hs hp
 |.scope c,Q,Q',hd,hq,_,_,hs,hp=>by
  refine aw_D hqp c (Q:=noGotoQ Q) hd ?_ hs hp
  intro x s h hs hp
  cases x with
  |exit j=>exact hq (.exit j) _ _ hs hp
  |normal=>exact hq .normal _ _ hs hp
  |goto l=>exact hp.elim
  |ret=>exact hq .ret _ _ hs hp
 |.loop c,Q,Q',hd,hq,s,h,hs,hp=>by
  obtain⟨n,hp⟩:=hp
  refine⟨n,?_⟩
  have key:∀(n:Nat)(s:St)(h:AH),s.ds=ds->aIter (aw P N W pl c) n Q QP s h->aIter (aw P N W pl c) n Q' QP' s h:=by
   intro n
   induction n with
   |zero=>intro s h _ hp;exact hp.elim
   |succ n ih=>intro s h hs hp;exact aw_D hqp c hd (thenQ_D (fun s h hs=>ih s h hs) hq) hs hp
  exact key n s h hs hp
end
abbrev WK:=Nat->Prop
abbrev EK:=Nat->VK
abbrev PK:=AV->AH->Prop
abbrev kP(QP:AV->AH->Prop):PPost:=fun _=>QP
theorem vloopD{F:Post->PPost->St->AH->Prop}{Q:Post}{QP:PPost}{L:(Nat->AV)->List AV}{G:VK->VK}
  (hs:∀(Kn:VK)(KQ:St->AH->Prop),(∀s h,KQ s h=Kn (L s.tm) h)->∀s h,F (thenQ KQ Q) QP s h=G Kn (L s.tm) h):∀s h,aLoop F Q QP s h=vLoop G (L s.tm) h:=by
 intro s h
 have key:∀n s h,aIter F n Q QP s h=vIter G n (L s.tm) h:=by
  intro n
  induction n with
  |zero=>intro s h;rfl
  |succ n ih=>intro s h;exact hs (vIter G n) (fun s h=>aIter F n Q QP s h) ih s h
 unfold aLoop vLoop
 exact congrArg Exists (funext fun n=>key n s h)
theorem body_D{rs:List ResultVar}{R:AE->AH->Prop}{c:Code}{q:Post}{s:St}{h:AH}(hd:noDef c=true)(hq:∀s h,q .ret s h=retV P rs R (rs.map fun r=>s.tm (slotR r)) h)(hn:∀s h,q .normal s h=retV P rs R (rs.map fun r=>s.tm (slotR r)) h)
  (he:∀j s h,¬q (.exit j) s h) (hg:∀l s h,¬q (.goto l) s h) (hs:s.ds=[]) (hp:aw P N W pl c q (kP fun v h=>R (.pan v) h) s h):aw P N W pl c (bodyQ P rs R) (bodyP R) s h:=by
 refine aw_D (fun v h hh=>⟨rfl,hh⟩) c hd (fun x s h hs hh=>?_) hs hp
 obtain⟨tm,ds⟩:=s
 simp only at hs
 subst hs
 cases x with
 |ret=>rw[bodyQ_v];rw[hq]at hh;exact hh
 |normal=>rw[bodyQ_n];rw[hn]at hh;exact hh
 |exit j=>exact(he j _ _ hh).elim
 |goto l=>exact(hg l _ _ hh).elim
end
section
theorem Fr.setKind{h h1:AH}{S:Nat->Prop}(a:Fr h h1 S){id:Nat}{k:Kind}(hs:S id\/h.next<=id):Fr h (h1.setKind id k) S:=
 ⟨a.next,fun i hi hn=>by rw[AH.setKind_obj,zW (fun e=>by subst e;exact hs.elim hn (fun h=>by omega))];exact a.keep i hi hn⟩
theorem obj_ne{h:AH}{i j:Nat}{a b:AO}(hi:h.obj i=some a)(hj:h.obj j=some b)(hne:a.ty≠b.ty):i≠j:=fun e=>by subst e;rw[hi]at hj;exact hne (by rw[Option.some.inj hj])
theorem SlL.of_fr{α:Type}{f:α->List AV}{sz:Nat}{ty:TypeId}{h h':AH}{S:Nat->Prop}{x:AV}{l:List α}(hl:SlL f sz ty h x l)(hf:Fr h h' S)(hx:∀id,x=.sl id 0 l.length->¬S id):SlL f sz ty h' x l:=by
 rcases hl with hl |⟨id,rfl,ho⟩
 ·exact .inl hl
 ·exact .inr ⟨id,rfl,hf.obj ho (hx id rfl)⟩
theorem putCells_app(A:List AV):∀(cs B:List AV)(o:Nat),putCells (A++B) (A.length+o) cs=A++putCells B o cs
 |[],B,o=>rfl
 |c::cs,B,o=>by
  simp only[putCells]
  rw[List.set_append_right _ _ (by omega),Nat.add_sub_cancel_left,Nat.add_assoc,putCells_app A cs (B.set o c) (o+1)]
theorem putCells_0:∀(cs X Y:List AV),cs.length=X.length->putCells (X++Y) 0 cs=cs++Y
 |[],X,Y,h=>by have:X=[]:=List.length_eq_zero_iff.1 (by simpa using h.symm);subst this;rfl
 |c::cs,[],Y,h=>by simp at h
 |c::cs,x::X,Y,h=>by
  have h':cs.length=X.length:=by simpa using h
  have:=putCells_app [c] cs (X++Y) 0
  simp only[putCells,List.cons_append,List.set_cons_zero,List.singleton_append,List.nil_append,List.length_singleton,Nat.add_zero,zG]at this ⊢
  rw[this,putCells_0 cs X Y h']
theorem SlL.sl{α:Type}{f:α->List AV}{sz:Nat}{ty:TypeId}{h:AH}{y:AV}{l:List α}(hl:SlL f sz ty h y l)(hne:l≠[]):∃id,y=.sl id 0 l.length:=by
 rcases hl with⟨_,h2⟩ |⟨id,h2,_⟩
 ·exact absurd h2 hne
 ·exact⟨id,h2⟩
theorem app1t{α:Type}{f:α->List AV}{sz bytes:Nat}{ty:TypeId}{z:List Value}(hf:∀x,(f x).length=sz)(hsz:0<sz)(hz:z.length=sz)(hb:bytes<=1024)
  {h:AH} {x:AV} {l:List α} {t:α} {W:Nat->Prop} {K:AV->AV->AH->Prop} (h1:(f t).all oneA=true) (hl:SlL f sz ty h x l) (hw:InS W x) (hn:l.length<=100000000)
  (hK:∀y h',SlL f sz ty h' y (l++[t])->InS (h.next<=·) y->(∀i,i<h.next->(∀off n,x≠.sl i off n)->h'.obj i=h.obj i)->h.next<=h'.next->K (.sl h.next 0 1) y h') :
  eBSl (some (sz,ty,z)) 1 [(0,.agg (f t))] h (fun v h4=>eApp (some (sz,bytes,ty)) x v h4 W (K v)):=by
 have hfill:aFill (fun i=>some (i*sz,sz)) (z.map .sc) [(0,.agg (f t))]=some (f t):=by
  simp only[aFill,avCells,Nat.zero_mul,hf,zZ,hz,zG,zU,and_self,zV]
  rw[aFill_one (by simp[hf,hz])]
 refine⟨f t,⟨hfill,h1⟩,?_⟩
 have hnb:(l.length+1)*bytes<=140737488355328:=by
  have:(l.length+1)*bytes<=100000001*1024:=Nat.mul_le_mul (by omega) hb
  omega
 have htake:((f t).drop 0).take (1*sz)=f t:=by rw[List.drop_zero,List.take_of_length_le (by rw[hf];omega)]
 rcases hl with⟨rfl,rfl⟩ |⟨id,rfl,ho⟩
 ·refine⟨1,f t,.inr ⟨rfl,_,AH.alloc_new _ _,rfl,by simp[hf],htake.symm⟩,?_⟩
  show if 1=0 then _ else _
  rw[zW (by omega)]
  refine⟨⟨by omega,by simpa using hnb⟩,?_⟩
  refine hK _ _ (.inr ⟨_,rfl,?_⟩) ?_ ?_ ?_
  ·rw[AH.alloc_new];simp[mkO]
  ·intro i off n he;cases he;simp only[AH.alloc_next];omega
  ·intro i hi _;rw[AH.alloc_old (by simp only[AH.alloc_next];omega),AH.alloc_old hi]
  ·simp only[AH.alloc_next];omega
 ·have hid:=h.lt _ _ ho
  refine⟨1,f t,.inr ⟨rfl,_,AH.alloc_new _ _,rfl,by simp[hf],htake.symm⟩,?_⟩
  show if 1=0 then _ else _
  rw[zW (by omega)]
  have hlen:(l.flatMap f).length=l.length*sz:=flat_len hf l
  refine .inl ⟨rfl,_,⟨hw _ _ _ rfl,by rw[AH.alloc_old hid];exact ho,rfl,rfl,rfl,rfl,by simp[mkO,hlen],by omega,hnb⟩,?_⟩
  refine hK _ _ (.inr ⟨_,by rw[List.length_append,List.length_singleton],?_⟩) ?_ ?_ ?_
  ·rw[AH.alloc_obj,zX (by simp[AH.alloc_next,AH.del_next])]
   simp only[mkO,List.flatMap_append,List.flatMap_cons,List.flatMap_nil,List.append_nil]
   rw[List.take_of_length_le (by rw[hlen];exact zU _)]
  ·intro i off n he;cases he;simp only[AH.alloc_next];omega
  ·intro i hi hne
   have:i≠id:=fun e=>hne 0 l.length (by rw[e])
   rw[AH.alloc_old (by simp only[AH.alloc_next,AH.del_next];omega),AH.del_old this,AH.alloc_old hi]
  ·simp only[AH.alloc_next,AH.del_next];omega
def SlR{α:Type}(f:α->List AV)(sz:Nat)(ty:TypeId)(h:AH)(x:AV)(l:List α):Prop:=
 (x=nilS/\l=[])\/(∃a c,x=.sc (.slice a 0 c)/\l=[])\/∃id rest ro ty',x=.sl id 0 l.length/\(ro=false->ty'=ty)/\h.obj id=some { cells:=l.flatMap f++rest,sz:=sz,ty:=ty',ro:=ro,kind:=.row }
theorem SlL.toR{α:Type}{f:α->List AV}{sz:Nat}{ty:TypeId}{h:AH}{x:AV}{l:List α}(hl:SlL f sz ty h x l):SlR f sz ty h x l:=by
 rcases hl with hl |⟨id,h1,h2⟩
 ·exact .inl hl
 ·exact .inr (.inr ⟨id,[],false,ty,h1,fun _=>rfl,by simpa[mkO] using h2⟩)
theorem SlR.fr{α:Type}{f:α->List AV}{sz:Nat}{ty:TypeId}{h h':AH}{S:Nat->Prop}{x:AV}{l:List α}(hl:SlR f sz ty h x l)(hf:Fr h h' S)(hs:∀id o,h.obj id=some o->(o.ro=false->o.ty=ty)->¬S id):SlR f sz ty h' x l:=by
 rcases hl with hl |hl |⟨id,rest,ro,ty',h1,h3,h2⟩
 ·exact .inl hl
 ·exact .inr (.inl hl)
 ·exact .inr (.inr ⟨id,rest,ro,ty',h1,h3,hf.obj h2 (hs id _ h2 h3)⟩)
theorem SlR.fr0{α:Type}{f:α->List AV}{sz:Nat}{ty:TypeId}{h h':AH}{x:AV}{l:List α}(hl:SlR f sz ty h x l)(hf:Fr h h' fun _=>False):SlR f sz ty h' x l:=hl.fr hf fun _ _ _ _ h=>h
theorem SlR.len{α:Type}{f:α->List AV}{sz:Nat}{ty:TypeId}{h:AH}{x:AV}{l:List α}(hl:SlR f sz ty h x l):(strArg x=false)/\∀K:AV->Prop,pLen x K=K (.sc (.int .i64 l.length)):=by
 rcases hl with⟨rfl,rfl⟩ |⟨a,c,rfl,rfl⟩ |⟨id,rest,ro,ty',rfl,_,_⟩<;>exact⟨rfl,fun _=>rfl⟩
theorem SlR.one{α:Type}{f:α->List AV}{sz:Nat}{ty:TypeId}{h:AH}{x:AV}{l:List α}(hl:SlR f sz ty h x l):oneA x=true/\avCells x=some [x]:=by
 rcases hl with⟨rfl,rfl⟩ |⟨a,c,rfl,rfl⟩ |⟨id,rest,ro,ty',rfl,_,_⟩<;>exact⟨rfl,rfl⟩
theorem SlR.at_{α:Type}{f:α->List AV}{sz:Nat}{ty:TypeId}{h:AH}{x:AV}{l:List α}(hl:SlR f sz ty h x l)(hf:∀y,(f y).length=sz){i:Nat}{y:α}(hy:l[i]?=some y) :
  ∃id cells ro ty',x=.sl id 0 l.length/\h.obj id=some { cells:=cells,sz:=sz,ty:=ty',ro:=ro,kind:=.row }/\(cells.drop (i*sz)).take sz=f y/\i*sz+sz<=cells.length/\∀j,j<sz->cells[i*sz+j]?=(f y)[j]?:=by
 have hi:i<l.length:=(zM.1 hy).1
 rcases hl with⟨_,rfl⟩ |⟨_,_,_,rfl⟩ |⟨id,rest,ro,ty',h1,_,h2⟩
 ·simp at hi
 ·simp at hi
 ·have hlen:(l.flatMap f).length=l.length*sz:=flat_len hf l
  have hle:i*sz+sz<=(l.flatMap f).length:=by
   rw[hlen,<-Nat.succ_mul]
   exact Nat.mul_le_mul_right _ hi
  refine⟨id,_,ro,ty',h1,h2,?_,by simp only[List.length_append];omega,fun j hj=>?_⟩
  ·rw[List.drop_append_of_le_length (by omega),List.take_append_of_le_length (by rw[List.length_drop];omega)]
   exact flat_drop hf l i y hy
  ·rw[List.getElem?_append_left (by omega),flat_get hf l i j hj,hy];rfl
variable {P:Program} {α:Type} {f:α->List AV} {sz:Nat} {ty:TypeId} {h:AH} {x:AV} {l:List α} {i:Nat} {y:α} {W:Nat->Prop}
theorem rng_at{K:AV->Nat->Prop}(hl:SlR f sz ty h x l)(hf:∀y,(f y).length=sz)(hi:l[i]?=some y)(hK:∀q,K (.agg (f y)) q) :
  pIxA (some (sz,none)) x (.sc (.int .i64 i)) fun t=>lLd (some true) (some sz) t h K:=by
 have hlt:i<l.length:=(zM.1 hi).1
 obtain⟨id,cells,ro,ty',rfl,ho,h1,h2,_⟩:=hl.at_ hf hi
 simp only[pIxA_sl,lLdn_f,ho,ldnk_mk,zG,zY]
 refine⟨⟨by omega,by omega⟩,h2,?_⟩
 rw[h1];exact hK _
theorem rng_fld{K:AV->Nat->Prop}{k:Nat}{v:AV}(hl:SlR f sz ty h x l)(hf:∀y,(f y).length=sz)(hi:l[i]?=some y)(hk:k<sz)(hv:(f y)[k]?=some v)(hK:∀q,K v q) :
  pIxA (some (sz,none)) x (.sc (.int .i64 i)) fun t=>pFld (some k) t fun t=>lLd (some false) (some 1) t h K:=by
 have hlt:i<l.length:=(zM.1 hi).1
 obtain⟨id,cells,ro,ty',rfl,ho,h1,h2,h3⟩:=hl.at_ hf hi
 simp only[pIxA_sl,pFld_ptr,lLd_f,ho,ldk_mk,zG,zY]
 refine⟨⟨by omega,by omega⟩,?_⟩
 rw[h3 _ hk,hv];exact hK _
theorem rng_one{K:AV->Nat->Prop}{v:AV}(hl:SlR f 1 ty h x l)(hf:∀y,(f y).length=1)(hi:l[i]?=some y)(hv:f y=[v])(hK:∀q,K v q) :
  pIxA (some (1,none)) x (.sc (.int .i64 i)) fun t=>lLd (some false) (some 1) t h K:=by
 have hlt:i<l.length:=(zM.1 hi).1
 obtain⟨id,cells,ro,ty',rfl,ho,h1,h2,h3⟩:=hl.at_ hf hi
 have h4:=h3 0 (by omega)
 rw[Nat.mul_one]at h4
 simp only[pIxA_sl,lLd_f,ho,ldk_mk,zG,zY,Nat.mul_one]
 refine⟨⟨by omega,by omega⟩,?_⟩
 rw[show i=i+0 by omega,h4,hv];exact hK _
theorem rng_var{K:AV->AH->Prop}{z:List Value}(hl:SlR f sz ty h x l)(hf:∀y,(f y).length=sz)(ho:(f y).all oneA=true)(hi:l[i]?=some y)(hz:z.all (·.oneCell')=true)(hn:z.length=sz)(hW:∀id,h.next<=id->W id)
  (hK:∀vn h',Fr h h' (fun _=>False)->h.next<=vn->h'.obj vn=some (mkO (f y) sz ty)->K (.ptr vn 0) h') :
  pIxA (some (sz,none)) x (.sc (.int .i64 i)) fun t=>lLd (some true) (some sz) t h fun v _=>eAlloc (some z) sz ty h fun p h1=>eStore (some sz) p v h1 W fun h2=>K p h2:=by
 refine rng_at hl hf hi fun q=>?_
 have hv:=AH.alloc_new h (mkO (z.map AV.sc) sz ty)
 simp only[eAlloc_d,eStore_f,hv,avC_agg,stk_mk]
 refine⟨hz,⟨hW _ (zU _),ho,hf _,by simp[hn]⟩,?_⟩
 refine hK _ _ ((Fr.refl.alloc _).put (.inr (zU _))) (zU _) ?_
 rw[put_row hv]
 congr 1
 simp only[mkO]
 congr 1
 exact aFill_one (by simp[hn,hf])
theorem var_ld{K:AV->Nat->Prop}{cs:List AV}{vn:Nat}(ho:h.obj vn=some (mkO cs sz ty))(hc:cs.length=sz)(hK:∀q,K (.agg cs) q):lLd (some true) (some sz) (.ptr vn 0) h K:=by
 simp only[lLdn_f,ho,ldnk_mk,zG,List.drop_zero]
 refine⟨by omega,?_⟩
 rw[List.take_of_length_le (by omega)];exact hK _
theorem var_fld{K:AV->Nat->Prop}{cs:List AV}{vn k:Nat}{v:AV}(ho:h.obj vn=some (mkO cs sz ty))(hv:cs[k]?=some v)(hK:∀q,K v q):pFld (some k) (.ptr vn 0) fun t=>lLd (some false) (some 1) t h K:=by
 simp only[pFld_ptr,lLd_f,ho,ldk_mk,zG,hv];exact hK _
theorem box_var{K:AV->AH->Prop}{cs:List AV}(ho:cs.all oneA=true)(hK:∀vn h',Fr h h' (fun _=>False)->h.next<=vn->h'.obj vn=some (mkO cs sz ty)->K (.ptr vn 0) h'):eBox sz ty (.agg cs) h K:=
 ⟨cs,rfl,ho,hK _ _ (Fr.refl.alloc _) (zU _) (AH.alloc_new h _)⟩
theorem new_var{K:AV->AH->Prop}{z:List Value}{cs:List AV}(ho:cs.all oneA=true)(hc:cs.length=sz)(hz:z.all (·.oneCell')=true)(hn:z.length=sz)(hW:∀id,h.next<=id->W id)
  (hK:∀vn h',Fr h h' (fun _=>False)->h.next<=vn->h'.obj vn=some (mkO cs sz ty)->K (.ptr vn 0) h') :
  eAlloc (some z) sz ty h fun p h1=>eStore (some sz) p (.agg cs) h1 W fun h2=>K p h2:=by
 have hv:=AH.alloc_new h (mkO (z.map AV.sc) sz ty)
 simp only[eAlloc_d,eStore_f,hv,avC_agg,stk_mk]
 refine⟨hz,⟨hW _ (zU _),ho,hc,by simp[hn]⟩,?_⟩
 refine hK _ _ ((Fr.refl.alloc _).put (.inr (zU _))) (zU _) ?_
 rw[put_row hv]
 congr 1
 simp only[mkO]
 congr 1
 exact aFill_one (by simp[hn,hc])
theorem Fr.tr0{h h1 h2:AH}(a:Fr h h1 fun _=>False)(b:Fr h1 h2 fun _=>False):Fr h h2 fun _=>False:=a.trans (b.mono fun _ h=>h.elim)
theorem Fr.ob0{h h1:AH}(a:Fr h h1 fun _=>False){id:Nat}{o:AO}(ho:h.obj id=some o):h1.obj id=some o:=a.obj ho fun h=>h
section
variable {α:Type} {f:α->List AV} {sz bytes:Nat} {ty:TypeId} {h:AH} {h0:AH} {W:Nat->Prop} {K:AV->AH->Prop} {id:Nat}
theorem app_all{y:AV}{l:List α}(hx:h.obj id=some (mkO [] sz ty))(hy:SlR f sz ty h y l)(hf:∀y,(f y).length=sz)(hn:l.length<=100000000)(hb:bytes<=1024)(hW:W id)
  (hK:∀id' h',h'.obj id'=some (mkO (l.flatMap f) sz ty)->(id'=id\/h.next<=id')->Fr h h' (·=id)->K (.sl id' 0 l.length) h'):eApp (some (sz,bytes,ty)) (.sl id 0 0) y h W K:=by
 have hid:=h.lt _ _ hx
 have hnb:(0+l.length)*bytes<=140737488355328:=by
  have:(0+l.length)*bytes<=100000000*1024:=Nat.mul_le_mul (by omega) hb
  omega
 have go:∀m cs,news sz y h m cs->m=l.length->cs=l.flatMap f->eApp (some (sz,bytes,ty)) (.sl id 0 0) y h W K:=by
  rintro m cs hnw rfl rfl
  refine⟨_,_,hnw,?_⟩
  show if l.length=0 then _ else _
  by_cases h0:l.length=0
  ·rw[zX h0]
   have:l=[]:=List.length_eq_zero_iff.1 h0
   subst this
   exact hK id h hx (.inl rfl) Fr.refl
  ·rw[zW h0]
   refine .inl ⟨rfl,_,⟨hW,hx,rfl,rfl,rfl,rfl,by simp,by omega,hnb⟩,?_⟩
   rw[zG]
   refine hK _ _ ?_ (.inr (zU _)) ?_
   ·rw[AH.alloc_obj,zX (by simp[AH.del_next])]
    simp[mkO]
   ·refine⟨by simp only[AH.alloc_next,AH.del_next];omega,fun i hi hne=>?_⟩
    rw[AH.alloc_old (by simp only[AH.del_next];omega),AH.del_old hne]
 rcases hy with⟨rfl,rfl⟩ |⟨a2,c2,rfl,rfl⟩ |⟨i2,rest,ro,ty2,rfl,_,ho⟩
 ·exact go 0 [] ⟨rfl,rfl⟩ rfl rfl
 ·exact go 0 [] ⟨rfl,rfl⟩ rfl rfl
 ·have hfl:(l.flatMap f).length=l.length*sz:=flat_len hf l
  refine go l.length (l.flatMap f) (.inr ⟨rfl,_,ho,rfl,?_,?_⟩) rfl rfl
  ·simp only[List.length_append];omega
  ·rw[List.drop_zero,List.take_append_of_le_length (by omega),List.take_of_length_le (by omega)]
theorem bsl_0(hK:∀id h',h'.obj id=some (mkO [] sz ty)->h.next<=id->Fr h h' (fun _=>False)->K (.sl id 0 0) h'):eBSl (some (sz,ty,[])) 0 [] h K:=
 ⟨[],⟨rfl,rfl⟩,hK _ _ (AH.alloc_new h _) (zU _) (Fr.refl.alloc _)⟩
theorem bsl_1{z:List Value}{cs:List AV}(hc:cs.length=sz)(hz:z.length=sz)(h1:cs.all oneA=true)(hK:∀id h',h'.obj id=some (mkO cs sz ty)->h.next<=id->Fr h h' (fun _=>False)->K (.sl id 0 1) h'):eBSl (some (sz,ty,z)) 1 [(0,.agg cs)] h K:=by
 have hfill:aFill (fun i=>some (i*sz,sz)) (z.map .sc) [(0,.agg cs)]=some cs:=by
  simp only[aFill,avCells,Nat.zero_mul,zZ,hz,hc,zG,zU,and_self,zV]
  rw[aFill_one (by simp[hc,hz])]
 exact⟨cs,⟨hfill,h1⟩,hK _ _ (AH.alloc_new h _) (zU _) (Fr.refl.alloc _)⟩
theorem cut_ok{n m:Nat}{K:AV->Prop}(h:n<=m)(hK:K (.sl id 0 n)):pSlL (some sz) (.sl id 0 m) none (some (.sc (.int .i64 n))) h0 K:=by
 refine⟨0,n,rfl,rfl,⟨by omega,by omega,.inl ⟨rfl,by omega⟩⟩,?_⟩
 simpa using hK
end
theorem grow_ok{sz id n m:Nat}{h:AH}{cells:List AV}{ty:TypeId}{K:AV->Prop}(ho:h.obj id=some (mkO cells sz ty))(hs:0<sz)(hm:m*sz<=cells.length)(hK:K (.sl id 0 m)):pSlL (some sz) (.sl id 0 n) none (some (.sc (.int .i64 m))) h K:=by
 refine⟨0,m,rfl,rfl,⟨by omega,by omega,.inr ⟨_,ho,rfl,rfl,hs,.inr (by simpa using hm)⟩⟩,?_⟩
 simpa using hK
theorem bsl_new{sz:Nat}{ty:TypeId}{z:List Value}{len:Nat}{parts:List (Nat×AV)}{cells:List AV}{h:AH}{K:AV->AH->Prop}(hf:aFill (fun i=>some (i*sz,sz)) (z.map .sc) parts=some cells/\cells.all oneA=true)
  (hK:∀id h',Fr h h' (fun _=>False)->h.next<=id->h'.obj id=some (mkO cells sz ty)->K (.sl id 0 len) h'):eBSl (some (sz,ty,z)) len parts h K:=
 ⟨cells,hf,hK _ _ (Fr.refl.alloc _) (zU _) (AH.alloc_new h _)⟩
theorem nat_bne(x y:Nat):((x:Int) != (y:Int))=!decide (x=y):=by by_cases h:x=y<;>simp[h];omega
theorem int_bne(x y:Int):(x != y)=!decide (x=y):=by by_cases h:x=y<;>simp[h]
abbrev B(b:Bool):AV:=.sc (.bool b)
abbrev I(n:Int):AV:=.sc (.int .i64 n)
abbrev U(n:Int):AV:=.sc (.int .u64 n)
abbrev Sb(s:ByteArray):AV:=.sc (.string s)
end
section
variable {P:Program} {κ:Type} {enc:κ->AV} {kt et:TypeId} {h:AH} {id:Nat} {l:List (κ×AV)} {n:κ} {z v:AV} {ok:Bool} {ty:TypeId}
def KeyE[DecidableEq κ](P:Program)(kt:TypeId)(enc:κ->AV):Prop:=∀a b,keyCmp P kt (enc a) (enc b)=some (decide (a=b))
theorem keyE_str(hs:isStr P kt=true):KeyE P kt Sb:=fun a b=>by simp[keyCmp,hs]
def getK[DecidableEq κ](n:κ):List (κ×AV)->Option AV
 |[]=>none
 |(k,v)::l=>if n=k then some v else getK n l
abbrev mpL(enc:κ->AV)(l:List (κ×AV)):List (AV×AV):=l.map fun x=>(enc x.1,x.2)
abbrev oMap(enc:κ->AV)(ty:TypeId)(l:List (κ×AV)):AO:={ cells:=[],sz:=0,ty:=ty,kind:=.map (mpL enc l) }
theorem mFind_k[DecidableEq κ](hk:KeyE P kt enc)(n:κ):∀(l:List (κ×AV))(i:Nat),(∃j v,getK n l=some v/\mFind P kt (enc n) (mpL enc l) i=some (some (j,v)))\/(getK n l=none/\mFind P kt (enc n) (mpL enc l) i=some none)
 |[],i=>.inr ⟨rfl,rfl⟩
 |(k,v)::l,i=>by
  simp only[getK,List.map_cons,mFind,hk n k]
  by_cases e:n=k
  ·rw[zX e,zL e]
   exact .inl ⟨i,v,rfl,rfl⟩
  ·rw[zW e,zK e]
   exact mFind_k hk n l (i+1)
theorem keyE_ok[DecidableEq κ](hk:KeyE P kt enc):keyOk P kt (enc n)=true:=by unfold keyOk;rw[hk];rfl
def lookV(ok:Bool)(z:AV):Option AV->AV
 |some v=>if ok then .tup [v,.b true] else v
 |none=>if ok then .tup [z,.b false] else z
theorem mRead_k[DecidableEq κ]{K:AV->Prop}(hk:KeyE P kt enc)(hz:zeroAV P et=some z)(hK:K (lookV ok z (getK n l))):mRead P (kt,et) (mpL enc l) (enc n) ok K:=by
 refine⟨keyE_ok hk,?_⟩
 rcases mFind_k hk n l 0 with⟨j,v,h1,h2⟩ |⟨h1,h2⟩
 ·rw[h1]at hK
  exact⟨_,z,h2,hz,hK⟩
 ·rw[h1]at hK
  exact⟨_,z,h2,hz,hK⟩
theorem look_k[DecidableEq κ]{K:AV->Option Nat->Prop}(hk:KeyE P kt enc)(hz:zeroAV P et=some z)(ho:h.obj id=some (oMap enc ty l))(hK:∀d,K (lookV ok z (getK n l)) d):lLook P (some (kt,et)) (.mp id) (enc n) ok h K:=
 ⟨_,_,⟨ho,rfl⟩,mRead_k hk hz (hK _)⟩
theorem set_k[DecidableEq κ]{W:Nat->Prop}{K:AH->Prop}(hk:KeyE P kt enc)(hW:W id)(ho:h.obj id=some (oMap enc ty l))(hn:getK n l=none)
  (hK:∀h',h'.obj id=some (oMap enc ty (l++[(n,v)]))->Fr h h' (·=id)->K h'):eMSet P (some (kt,et)) (.mp id) (enc n) v h W K:=by
 rcases mFind_k hk n l 0 with⟨j,v,h1,h2⟩ |⟨h1,h2⟩
 ·rw[hn]at h1;cases h1
 ·refine⟨_,_,none,⟨hW,ho,rfl,rfl⟩,keyE_ok hk,h2,hK _ ?_ ?_⟩
  ·rw[AH.setKind_obj,zX rfl,ho]
   simp[oMap,mSet]
  ·exact Fr.refl.setKind (.inl rfl)
theorem mk_k{K:AV->AH->Prop}{t:TypeId}(hK:∀id h',h'.obj id=some (oMap enc t [])->h.next<=id->Fr h h' (fun _=>False)->K (.mp id) h'):eMkM t h K:=
 hK _ _ (AH.alloc_new h _) (zU _) (Fr.refl.alloc _)
theorem getK_app[DecidableEq κ]{a b:List (κ×AV)}:getK n (a++b)=(getK n a).or (getK n b):=by
 induction a with
 |nil=>rfl
 |cons x a ih=>
  obtain⟨k,w⟩:=x
  simp only[List.cons_append,getK]
  by_cases e:n=k
  ·rw[zX e,zX e];rfl
  ·rw[zW e,zW e,ih]
def TW(T:TypeId->Bool)(n0:Nat)(h:AH)(id:Nat):Prop:=n0<=id/\∃o,h.obj id=some o/\o.ro=false/\T o.ty=true
theorem TW.trans{T:TypeId->Bool}{n0:Nat}{h h1 h2:AH}(a:Fr h h1 (TW T n0 h))(b:Fr h1 h2 (TW T n0 h1)):Fr h h2 (TW T n0 h):=by
 refine⟨zR a.next b.next,fun id h1' h2'=>?_⟩
 have e1:=a.keep id h1' h2'
 rw[b.keep id (Nat.lt_of_lt_of_le h1' a.next) ?_,e1]
 rintro⟨h3,o,h4,h5⟩
 exact h2' ⟨h3,o,by rw[<-e1];exact h4,h5⟩
theorem TW.of_fr{T:TypeId->Bool}{n0:Nat}{h h1:AH}(a:Fr h h1 fun _=>False):Fr h h1 (TW T n0 h):=a.mono fun _ h=>h.elim
theorem TW.back{T:TypeId->Bool}{n0:Nat}{h h':AH}(hf:Fr h h' (TW T n0 h)){id:Nat}(hs:TW T n0 h' id):TW T n0 h id\/h.next<=id:=by
 by_cases hl:id<h.next
 ·refine .inl (Classical.byContradiction fun hc=>hc ?_)
  obtain⟨h1,o,h2,h3⟩:=hs
  exact⟨h1,o,by rw[<-hf.keep id hl hc];exact h2,h3⟩
 ·exact .inr (by omega)
theorem TW.no{T:TypeId->Bool}{n0:Nat}{h:AH}{id:Nat}{o:AO}(ho:h.obj id=some o)(h1:o.ro=false->T o.ty=false):¬TW T n0 h id:=by
 rintro⟨_,o',h3,h5,h4⟩
 rw[ho]at h3;cases h3
 rw[h1 h5]at h4;cases h4
theorem TW.obj{T:TypeId->Bool}{n0:Nat}{h h':AH}(hf:Fr h h' (TW T n0 h)){id:Nat}{o:AO}(ho:h.obj id=some o)(h1:T o.ty=false):h'.obj id=some o:=hf.obj ho (TW.no ho fun _=>h1)
theorem Fr.setK{h h1:AH}{S:Nat->Prop}(a:Fr h h1 S){id:Nat}{k:Kind}(hs:S id\/h.next<=id):Fr h (h1.setKind id k) S:=a.setKind hs
theorem avC_mp{id:Nat}:avCells (.mp id)=some [.mp id]:=rfl
theorem avC_nm:avCells (.sc (.map none))=some [.sc (.map none)]:=rfl
attribute [simp] avC_mp avC_nm
end
section
structure Bd where
 P:Program
 N:Nat
 pl:Plans
structure Cx where
 W:WK
 R:VK
 N:VK
 E:EK
 P:PK
abbrev GK:=WK->VK->VK->EK->PK->VK->VK
def u0:Code->Code
 |.seq a _ |.cond _ a _ |.block _ a |.loop a |.scope a=>a
 |c=>c
def u1:Code->Code
 |.seq _ b |.cond _ _ b=>b
 |c=>c
def uc:Code->Operand
 |.cond o _ _=>o
 |_=>.tmp 0
def uo:Code->Array Oper
 |.region _ o _=>o
 |_=>#[]
def ui:Code->Nat
 |.region i _ _=>i
 |_=>0
def ud:Code->Bool
 |.region _ _ d=>d
 |_=>false
abbrev TB(B:Bd)(W:WK)(QP:PPost)(x:Code)(q:Post)(f:KT):Prop:=aw B.P B.N W B.pl x q QP=f
abbrev RK:=AE->AH->Prop
def fr:Nat->Nat->List (Nat×Bool)
 |_,0=>[]
 |a,n+1=>(a,false)::fr (a+1) n
def puWf:List Nat->WK->Nat->WK
 |[],W=>fun _=>W
 |a::l,W=>puW (a::l) fun _=>W
def gOf(B:Bd)(x:Code):Plan:=(plAt B.pl (ui x)).getD ⟨[],false,[],[]⟩
def gi(g:Grps):List (Nat×Bool):=(g.head?.map (·.2)).getD []
def gj(g:Grps):Nat:=((g.head?.bind (·.1)).map (·.1)).getD 0
def gw(g:Grps):Bool:=((g.head?.bind (·.1)).map (·.2)).getD false
abbrev TG(B:Bd)(W:WK)(QP:PPost)(x:Code)(g:Grps)(K f:KT):Prop:=evG B.P B.N (puWf (gOf B x).pure W) nobody QP (uo x) g K=f
section
variable {B:Bd} {W:WK} {QP:PPost} {x:Code} {q:Post} {K:KT} {g:Grps}
theorem sq(f:KT)(hb:TB B W QP (u1 x) q K)(e:(x,aw B.P B.N W B.pl (u0 x) (thenQ K q) QP)=(.seq (u0 x) (u1 x),f):=by kernel_rfl):TB B W QP x q f:=by
 obtain⟨e1,e2⟩:=Prod.mk.inj e
 unfold TB at *;subst hb;rw[e1];exact e2
theorem sl(f:KT)(e:(x,aw B.P B.N W B.pl (u0 x) (thenQ (aw B.P B.N W B.pl (u1 x) q QP) q) QP)=(.seq (u0 x) (u1 x),f):=by kernel_rfl):TB B W QP x q f:=sq f rfl e
theorem sn{f:KT}(hb:TB B W QP (u1 x) q K)(ha:TB B W QP (u0 x) (thenQ K q) f)(e:x=.seq (u0 x) (u1 x):=by kernel_rfl):TB B W QP x q f:=by
 unfold TB at *;subst hb;rw[e];exact ha
theorem cd(f:KT){A A':KT}(hA:TB B W QP (u0 x) q A)(hB:TB B W QP (u1 x) q A')(e:(x,fun s h=>aIf (aev s (uc x)) (A s h) (A' s h))=(.cond (uc x) (u0 x) (u1 x),f):=by kernel_rfl):TB B W QP x q f:=by
 obtain⟨e1,e2⟩:=Prod.mk.inj e
 unfold TB at *;subst hA hB;rw[e1];exact e2
theorem bk{f:KT}(i:Nat)(ha:TB B W QP (u0 x) (blockQ i q) f)(e:x=.block i (u0 x):=by kernel_rfl):TB B W QP x q f:=by unfold TB at *;rw[e];exact ha
theorem sp{f:KT}(ha:TB B W QP (u0 x) (noGotoQ q) f)(e:x=.scope (u0 x):=by kernel_rfl):TB B W QP x q f:=by unfold TB at *;rw[e];exact ha
theorem sm(f:KT)(e:aw B.P B.N W B.pl x q QP=f:=by kernel_rfl):TB B W QP x q f:=e
theorem tr:TB B W QP x q (aw B.P B.N W B.pl x q QP):=rfl
theorem gr{f:KT}(hr:TG B W QP x (gOf B x).groups (q .normal) f)(e:(x,plAt B.pl (ui x))=(.region (ui x) (uo x) (ud x),some ⟨(gOf B x).groups,false,[],(gOf B x).pure⟩):=by kernel_rfl):TB B W QP x q f:=by
 obtain⟨e1,e2⟩:=Prod.mk.inj e
 unfold TB TG at *;subst hr;rw[e1]
 funext s h
 cases hp:(gOf B x).pure with
 |nil=>rw[hp]at e2;rw[aw_groups e2,<-e1,hp];rfl
 |cons a l=>rw[hp]at e2;rw[aw_groups_pu e2,<-e1,hp];rfl
theorem gn(f:KT){C:KT}(hr:TG B W QP x g.tail K C)(e:(g,evI B.P B.N (puWf (gOf B x).pure W) nobody QP (uo x) (gi g) C)=((none,gi g)::g.tail,f):=by kernel_rfl):TG B W QP x g K f:=by
 obtain⟨e1,e2⟩:=Prod.mk.inj e
 unfold TG at *;subst hr;rw[e1];exact e2
theorem gl(f:KT)(e:(g,evI B.P B.N (puWf (gOf B x).pure W) nobody QP (uo x) (gi g) K)=([(none,gi g)],f):=by kernel_rfl):TG B W QP x g K f:=by
 obtain⟨e,e2⟩:=Prod.mk.inj e
 unfold TG;rw[e];exact e2
theorem gx(f:KT){C:KT}(hr:TG B W QP x g.tail K C)(e:(g,slotOf (uo x) (gj g),fun s h=>aIg (gw g) (s.tm ((slotOf (uo x) (gj g)).getD 0)) (evI B.P B.N (puWf (gOf B x).pure W) nobody QP (uo x) (gi g) C s h) (C (skI B.N (uo x) (gi g) s) h))=((some (gj g,gw g),gi g)::g.tail,some ((slotOf (uo x) (gj g)).getD 0),f):=by kernel_rfl):TG B W QP x g K f:=by
 obtain⟨e1,e3⟩:=Prod.mk.inj e
 obtain⟨e2,e4⟩:=Prod.mk.inj e3
 unfold TG at *;subst hr;rw[<-e4];clear e e3 e4
 generalize hd:(slotOf (uo x) (gj g)).getD 0=d at *
 generalize gj g=j at *
 generalize gw g=w at *
 generalize gi g=i at *
 generalize List.tail g=t at *
 subst e1
 funext s h
 simp only[evG,e2]
theorem gm{C:KT}(hr:TG B W QP x g.tail K C)(e:g=(none,gi g)::g.tail:=by kernel_rfl):TG B W QP x g K (evI B.P B.N (puWf (gOf B x).pure W) nobody QP (uo x) (gi g) C):=gn _ hr (Prod.ext e rfl)
theorem lo(f:KT)(e:(x,fun s h=>aLoop (aw B.P B.N W B.pl (u0 x)) q QP s h)=(.loop (u0 x),f):=by kernel_rfl):TB B W QP x q f:=by
 obtain⟨e,e2⟩:=Prod.mk.inj e
 unfold TB;rw[e];exact e2
variable {c:Cx}
def lk:List (Nat×List Nat)->Nat->List Nat
 |[],_=>[]
 |(i,l)::r,j=>if j=i then l else lk r j
def mkq(L rs:List Nat)(el:List (Nat×List Nat))(c:Cx):Post
 |.normal,s,h=>c.N (L.map s.tm) h
 |.ret,s,h=>c.R (rs.map s.tm) h
 |.exit j,s,h=>c.E j ((lk el j).map s.tm) h
 |.goto _,_,_=>False
structure PQ (R:VK) (rs:List Nat) (el:List (Nat×List Nat)) (E:EK) (q:Post):Prop where
 r:∀s h,q .ret s h=R (rs.map s.tm) h
 e:∀j s h,q (.exit j) s h=E j ((lk el j).map s.tm) h
 g:∀l s h,q (.goto l) s h=False
variable {R:VK} {rs:List Nat} {el:List (Nat×List Nat)} {E:EK}
theorem PQ.b{i:Nat}{l:List Nat}{A:VK}(hr:PQ R rs el E q)(hA:q .normal=fun s h=>A (l.map s.tm) h:=by kernel_rfl):PQ R rs ((i,l)::el) (fun j vs h=>if j=i then A vs h else E j vs h) (blockQ i q) where
 r:=hr.r
 g:=hr.g
 e:=fun j s h=>by
  simp only[blockQ,lk]
  split
  ·rw[hA]
  ·exact hr.e j s h
theorem PQ.t(hr:PQ R rs el E q):PQ R rs el E (thenQ K q):=⟨hr.r,hr.e,hr.g⟩
theorem PQ.n(hr:PQ R rs el E q):PQ R rs el E (noGotoQ q):=⟨hr.r,hr.e,fun _ _ _=>rfl⟩
theorem PQ.o{L:List Nat}:PQ c.R rs el c.E (mkq L rs el c):=⟨fun _ _=>rfl,fun _ _ _=>rfl,fun _ _ _=>rfl⟩
theorem lp{fb:Cx->KT}(L rs:List Nat)(el:List (Nat×List Nat))(f:KT)(G:GK)(E:EK)
  (hq:PQ c.R rs el E q) (hb:∀c:Cx,TB B c.W (kP c.P) (u0 x) (mkq L rs el c) (fb c)) (e:(x,(fun Kn=>fb ⟨c.W,c.R,Kn,E,c.P⟩),f)=(.loop (u0 x),(fun Kn s h=>G c.W c.R c.N c.E c.P Kn (L.map s.tm) h),fun s h=>vLoop (G c.W c.R c.N c.E c.P) (L.map s.tm) h):=by kernel_rfl):TB B c.W (kP c.P) x q f:=by
 obtain⟨e1,e3⟩:=Prod.mk.inj e
 obtain⟨e2,e4⟩:=Prod.mk.inj e3
 subst e4
 unfold TB;rw[e1]
 funext s h
 show aLoop (aw B.P B.N c.W B.pl (u0 x)) q (kP c.P) s h=_
 refine vloopD (L:=fun tm=>L.map tm) (G:=G c.W c.R c.N c.E c.P) (fun Kn KQ hK s h=>?_) s h
 have hqq:thenQ KQ q=mkq L rs el ⟨c.W,c.R,Kn,E,c.P⟩:=by
  funext z s h
  cases z with
  |normal=>exact hK s h
  |ret=>exact hq.r s h
  |exit j=>exact hq.e j s h
  |goto l=>exact hq.g l s h
 rw[hqq]
 have h1:=congrFun (congrFun (hb ⟨c.W,c.R,Kn,E,c.P⟩) s) h
 have h2:=congrFun (congrFun (congrFun e2 Kn) s) h
 exact h1.trans h2
end
theorem fin{P:Program}{f n:Nat}{L:List Nat}{fn:Func}{rs:List ResultVar}{pl:Plans}{args:List AV}{h:AH}{M:Nat->Prop}{R:AE->AH->Prop}(F:Cx->KT)(hm:P.follows .mixedOrders=true)(hf:P.funcs[f]?=some fn)
  (ht:∀c:Cx,TB ⟨P,n,pl⟩ c.W (kP c.P) (fn.body.getD .skip) (mkq L L [] c) (F c))
  (hp:F ⟨fun id=>M id\/h.next<=id,retV P rs R,retV P rs R,fun _ _ _=>False,fun v h=>R (.pan v) h⟩ (s0 args) h) (e:(okCode P pl (fn.body.getD .skip)&&noDef (fn.body.getD .skip)&&Nat.ble args.length n,fn.body,fn.ntmps,fn.results.toList,rs.map slotR)=(true,some (fn.body.getD .skip),n,rs,L):=by kernel_rfl):ACalls P f args h M R:=by
 obtain⟨e1,e⟩:=Prod.mk.inj e
 obtain⟨e2,e⟩:=Prod.mk.inj e
 obtain⟨e3,e⟩:=Prod.mk.inj e
 obtain⟨e4,e5⟩:=Prod.mk.inj e
 simp only[yC]at e1
 obtain⟨⟨o1,o2⟩,o3⟩:=e1
 subst e3
 refine acalls_of hm hf e2 (Nat.le_of_ble_eq_true o3) o1 ?_
 rw[e4]
 refine body_D (q:=mkq L L [] ⟨fun id=>M id\/h.next<=id,retV P rs R,retV P rs R,fun _ _ _=>False,fun v h=>R (.pan v) h⟩) o2 (fun s h=>?_) (fun s h=>?_) (fun _ _ _ h=>h) (fun _ _ _ h=>h) rfl ?_
 ·show retV P rs R (L.map s.tm) h=_
  rw[<-e5,List.map_map];rfl
 ·show retV P rs R (L.map s.tm) h=_
  rw[<-e5,List.map_map];rfl
 ·have:=congrFun (congrFun (ht ⟨fun id=>M id\/h.next<=id,retV P rs R,retV P rs R,fun _ _ _=>False,fun v h=>R (.pan v) h⟩) (s0 args)) h
  exact Eq.mpr this hp
abbrev N0:=WK->VK->VK->EK->PK->AH->Prop
def a0(n:N0)(c:Cx):KT:=fun _ h=>n c.W c.R c.N c.E c.P h
abbrev N1:=WK->VK->VK->EK->PK->AV->AH->Prop
def a1(n:N1)(i0:Nat)(c:Cx):KT:=fun s h=>n c.W c.R c.N c.E c.P (s.tm i0) h
abbrev N2:=WK->VK->VK->EK->PK->AV->AV->AH->Prop
def a2(n:N2)(i0 i1:Nat)(c:Cx):KT:=fun s h=>n c.W c.R c.N c.E c.P (s.tm i0) (s.tm i1) h
abbrev N3:=WK->VK->VK->EK->PK->AV->AV->AV->AH->Prop
def a3(n:N3)(i0 i1 i2:Nat)(c:Cx):KT:=fun s h=>n c.W c.R c.N c.E c.P (s.tm i0) (s.tm i1) (s.tm i2) h
abbrev N4:=WK->VK->VK->EK->PK->AV->AV->AV->AV->AH->Prop
def a4(n:N4)(i0 i1 i2 i3:Nat)(c:Cx):KT:=fun s h=>n c.W c.R c.N c.E c.P (s.tm i0) (s.tm i1) (s.tm i2) (s.tm i3) h
abbrev N5:=WK->VK->VK->EK->PK->AV->AV->AV->AV->AV->AH->Prop
def a5(n:N5)(i0 i1 i2 i3 i4:Nat)(c:Cx):KT:=fun s h=>n c.W c.R c.N c.E c.P (s.tm i0) (s.tm i1) (s.tm i2) (s.tm i3) (s.tm i4) h
abbrev N6:=WK->VK->VK->EK->PK->AV->AV->AV->AV->AV->AV->AH->Prop
def a6(n:N6)(i0 i1 i2 i3 i4 i5:Nat)(c:Cx):KT:=fun s h=>n c.W c.R c.N c.E c.P (s.tm i0) (s.tm i1) (s.tm i2) (s.tm i3) (s.tm i4) (s.tm i5) h
abbrev N7:=WK->VK->VK->EK->PK->AV->AV->AV->AV->AV->AV->AV->AH->Prop
def a7(n:N7)(i0 i1 i2 i3 i4 i5 i6:Nat)(c:Cx):KT:=fun s h=>n c.W c.R c.N c.E c.P (s.tm i0) (s.tm i1) (s.tm i2) (s.tm i3) (s.tm i4) (s.tm i5) (s.tm i6) h
abbrev N8:=WK->VK->VK->EK->PK->AV->AV->AV->AV->AV->AV->AV->AV->AH->Prop
def a8(n:N8)(i0 i1 i2 i3 i4 i5 i6 i7:Nat)(c:Cx):KT:=fun s h=>n c.W c.R c.N c.E c.P (s.tm i0) (s.tm i1) (s.tm i2) (s.tm i3) (s.tm i4) (s.tm i5) (s.tm i6) (s.tm i7) h
abbrev N9:=WK->VK->VK->EK->PK->AV->AV->AV->AV->AV->AV->AV->AV->AV->AH->Prop
def a9(n:N9)(i0 i1 i2 i3 i4 i5 i6 i7 i8:Nat)(c:Cx):KT:=fun s h=>n c.W c.R c.N c.E c.P (s.tm i0) (s.tm i1) (s.tm i2) (s.tm i3) (s.tm i4) (s.tm i5) (s.tm i6) (s.tm i7) (s.tm i8) h
abbrev N10:=WK->VK->VK->EK->PK->AV->AV->AV->AV->AV->AV->AV->AV->AV->AV->AH->Prop
def a10(n:N10)(i0 i1 i2 i3 i4 i5 i6 i7 i8 i9:Nat)(c:Cx):KT:=fun s h=>n c.W c.R c.N c.E c.P (s.tm i0) (s.tm i1) (s.tm i2) (s.tm i3) (s.tm i4) (s.tm i5) (s.tm i6) (s.tm i7) (s.tm i8) (s.tm i9) h
abbrev N20:=WK->VK->VK->EK->PK->AV->AV->AV->AV->AV->AV->AV->AV->AV->AV->AV->AV->AV->AV->AV->AV->AV->AV->AV->AV->AH->Prop
def a20(n:N20)(i0 i1 i2 i3 i4 i5 i6 i7 i8 i9 i10 i11 i12 i13 i14 i15 i16 i17 i18 i19:Nat)(c:Cx):KT:=fun s h=>n c.W c.R c.N c.E c.P (s.tm i0) (s.tm i1) (s.tm i2) (s.tm i3) (s.tm i4) (s.tm i5) (s.tm i6) (s.tm i7) (s.tm i8) (s.tm i9) (s.tm i10) (s.tm i11) (s.tm i12) (s.tm i13) (s.tm i14) (s.tm i15) (s.tm i16) (s.tm i17) (s.tm i18) (s.tm i19) h
abbrev N22:=WK->VK->VK->EK->PK->AV->AV->AV->AV->AV->AV->AV->AV->AV->AV->AV->AV->AV->AV->AV->AV->AV->AV->AV->AV->AV->AV->AH->Prop
def a22(n:N22)(i0 i1 i2 i3 i4 i5 i6 i7 i8 i9 i10 i11 i12 i13 i14 i15 i16 i17 i18 i19 i20 i21:Nat)(c:Cx):KT:=fun s h=>n c.W c.R c.N c.E c.P (s.tm i0) (s.tm i1) (s.tm i2) (s.tm i3) (s.tm i4) (s.tm i5) (s.tm i6) (s.tm i7) (s.tm i8) (s.tm i9) (s.tm i10) (s.tm i11) (s.tm i12) (s.tm i13) (s.tm i14) (s.tm i15) (s.tm i16) (s.tm i17) (s.tm i18) (s.tm i19) (s.tm i20) (s.tm i21) h
abbrev N23:=WK->VK->VK->EK->PK->AV->AV->AV->AV->AV->AV->AV->AV->AV->AV->AV->AV->AV->AV->AV->AV->AV->AV->AV->AV->AV->AV->AV->AH->Prop
def a23(n:N23)(i0 i1 i2 i3 i4 i5 i6 i7 i8 i9 i10 i11 i12 i13 i14 i15 i16 i17 i18 i19 i20 i21 i22:Nat)(c:Cx):KT:=fun s h=>n c.W c.R c.N c.E c.P (s.tm i0) (s.tm i1) (s.tm i2) (s.tm i3) (s.tm i4) (s.tm i5) (s.tm i6) (s.tm i7) (s.tm i8) (s.tm i9) (s.tm i10) (s.tm i11) (s.tm i12) (s.tm i13) (s.tm i14) (s.tm i15) (s.tm i16) (s.tm i17) (s.tm i18) (s.tm i19) (s.tm i20) (s.tm i21) (s.tm i22) h
abbrev N24:=WK->VK->VK->EK->PK->AV->AV->AV->AV->AV->AV->AV->AV->AV->AV->AV->AV->AV->AV->AV->AV->AV->AV->AV->AV->AV->AV->AV->AV->AH->Prop
def a24(n:N24)(i0 i1 i2 i3 i4 i5 i6 i7 i8 i9 i10 i11 i12 i13 i14 i15 i16 i17 i18 i19 i20 i21 i22 i23:Nat)(c:Cx):KT:=fun s h=>n c.W c.R c.N c.E c.P (s.tm i0) (s.tm i1) (s.tm i2) (s.tm i3) (s.tm i4) (s.tm i5) (s.tm i6) (s.tm i7) (s.tm i8) (s.tm i9) (s.tm i10) (s.tm i11) (s.tm i12) (s.tm i13) (s.tm i14) (s.tm i15) (s.tm i16) (s.tm i17) (s.tm i18) (s.tm i19) (s.tm i20) (s.tm i21) (s.tm i22) (s.tm i23) h
abbrev N25:=WK->VK->VK->EK->PK->AV->AV->AV->AV->AV->AV->AV->AV->AV->AV->AV->AV->AV->AV->AV->AV->AV->AV->AV->AV->AV->AV->AV->AV->AV->AH->Prop
def a25(n:N25)(i0 i1 i2 i3 i4 i5 i6 i7 i8 i9 i10 i11 i12 i13 i14 i15 i16 i17 i18 i19 i20 i21 i22 i23 i24:Nat)(c:Cx):KT:=fun s h=>n c.W c.R c.N c.E c.P (s.tm i0) (s.tm i1) (s.tm i2) (s.tm i3) (s.tm i4) (s.tm i5) (s.tm i6) (s.tm i7) (s.tm i8) (s.tm i9) (s.tm i10) (s.tm i11) (s.tm i12) (s.tm i13) (s.tm i14) (s.tm i15) (s.tm i16) (s.tm i17) (s.tm i18) (s.tm i19) (s.tm i20) (s.tm i21) (s.tm i22) (s.tm i23) (s.tm i24) h
end
end Go.Ab
