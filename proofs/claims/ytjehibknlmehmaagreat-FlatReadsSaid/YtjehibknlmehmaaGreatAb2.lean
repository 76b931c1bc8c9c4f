/- Regions, code and calls over the table are sound; short ways to use them; bodies told straight; maps; slices that hold lists. No condition. -/
import Derived.LoopN
import Derived.Scope
import Derived.Test.YtjehibknlmehmaaGreatAb1
set_option maxRecDepth 100000
namespace Go.Ab
section
variable {P:Program} {E:Env}
def oh(P:Program)(pu:List Nat)(ops:Array Oper)(B:List Nat)(listed:Array Bool)(x:Nat×Bool):Bool:=
 match ops[x.1]? with
 |none=>false
 |some oi=>
  if tJ oi.op then
   (Region.ready .any ops listed).contains x.1 &&
   (List.range ops.size).all fun j=>j==x.1||listed.getD j true||(B.getD j 0).testBit x.1 ||
    (match ops[j]? with |some oj=>oi.apart ops oj&&(!oC P oi.op||tJ oj.op||(match x.2 with |true=>true |false=>FF oj.op||pu.contains j)) |none=>true)
  else Region.ready .any ops listed==[x.1]
def sr(P:Program)(pu:List Nat)(ops:Array Oper)(B:List Nat):List (Nat×Bool)->Array Bool->Bool
 |[],_=>true
 |x::rest,listed=>oh P pu ops B listed x&&sr P pu ops B rest (listed.setIfInBounds x.1 true)
def iI(order:List (Nat×Bool))(listed:Array Bool):Array Bool:=order.foldl (fun l x=>l.setIfInBounds x.1 true) listed
def km(ops:Array Oper)(j:Nat):Option Nat:=(ops[j]?).bind (·.dst)
def oK(ops:Array Oper)(g:Option (Nat×Bool)×List (Nat×Bool)):Bool:=
 g.2.all fun x=>match ops[x.1]? with
  |some o=>o.guard==g.1&&(match g.1 with |none=>true |some (j,_)=>(match km ops j with |some d=>o.dst != some d |none=>false))
  |none=>false
inductive Way where
 |mk (path:List (Nat×Bool)) (next:List Way)
def Way.path:Way->List (Nat×Bool)
 |.mk p _=>p
mutual
def Way.Eu:Way->List (Nat×Bool)
 |.mk p ws=>p++pC ws
def pC:List Way->List (Nat×Bool)
 |[]=>[]
 |w::r=>w.Eu++pC r
end
structure uC where
 ij:List (Option (Nat×Bool)×List (Nat×Bool))
 held:Bool
 alts:List Way
 pure:List Nat
def jK(p:uC):List Nat:=((p.ij.flatMap (·.2)++pC p.alts).filter (·.2)).map (·.1)
def CC(B hl:List Nat)(j i:Nat):Bool:=hl.contains i&&!(B.getD j 0).testBit i
def Bq(ops:Array Oper)(j:Nat):Bool:=match ops[j]? with |some o=>tJ o.op |none=>false
def ww(ops:Array Oper)(C:Nat->Nat->Bool)(order:List (Nat×Bool))(k i:Nat):Bool:=(order.take k).all fun x=>Bq ops x.1||C x.1 i
def vB(ops:Array Oper)(hl:List Nat)(C:Nat->Nat->Bool)(order:List (Nat×Bool)):Bool:=
 (List.range order.length).all fun k=>match order[k]? with
  |some x=>(!x.2||ww ops C order k x.1)&&(Bq ops x.1||hl.all fun i=>!C x.1 i||ww ops C order k i)
  |none=>false
def kO(ws:List Way):List Nat:=ws.map fun w=>(w.path.head?.map (·.1)).getD 0
mutual
def yF(P:Program)(pu:List Nat)(ops:Array Oper)(B hl:List Nat):Way->List (Nat×Bool)->Array Bool->Bool
 |.mk path ws,order,listed=>(match path with
   |[]=>false
   |x::rest=>(match ops[x.1]? with |some o=>!tJ o.op |none=>false)&&sr P pu ops B rest (listed.setIfInBounds x.1 true)) &&
   oK ops (none,path)&&Nat.ble (order.length+path.length) ops.size&&vB ops hl (CC B hl) (order++path) &&
   Region.ready .any ops (iI path listed)==kO ws&&(!ws.isEmpty||order.length+path.length==ops.size)&&qW P pu ops B hl ws (order++path) (iI path listed)
def qW(P:Program)(pu:List Nat)(ops:Array Oper)(B hl:List Nat):List Way->List (Nat×Bool)->Array Bool->Bool
 |[],_,_=>true
 |w::r,order,listed=>yF P pu ops B hl w order listed&&qW P pu ops B hl r order listed
end
def Fo(P:Program)(ops:Array Oper)(draw:Bool)(p:uC):Bool:=
 let order:=p.ij.flatMap (·.2)
 p.ij.all (oK ops) &&
 match draw with
 |false=>order==(List.range ops.size).map (fun i=>(i,false))&&p.alts.isEmpty
 |true=>
  let B:=jB .any ops
  let listed:=iI order (Array.replicate ops.size false)
  sr P p.pure ops B order (Array.replicate ops.size false)&&vB ops (jK p) (CC B (jK p)) order&&Region.noSelect ops&&Region.ready .any ops listed==kO p.alts &&
   (if p.alts.isEmpty then order.length==ops.size else qW P p.pure ops B (jK p) p.alts order listed)
abbrev dj:=List (Nat×uC)
def sH:dj->Nat->Option uC
 |[],_=>none
 |x::r,id=>if x.1=id then some x.2 else sH r id
def jU(n:Nat):List (Nat×Bool):=(List.range n).map fun i=>(i,false)
def Ay(P:Program)(pl:dj)(id:Nat)(ops:Array Oper)(draw:Bool):Bool:=
 match sH pl id with
 |some p=>Fo P ops draw p
 |none=>!draw&&oK ops (none,jU ops.size)
def ls(P:Program)(pl:dj):Code->Bool
 |.region id ops draw=>Ay P pl id ops draw
 |.seq a b |.cond _ a b=>ls P pl a&&ls P pl b
 |.block _ c |.loop c |.scope c=>ls P pl c
 |_=>true
def ed(held:Bool)(Hd:Nat->Prop)(d:Option Nat)(k:Prop):Prop:=
 match held with
 |false=>k
 |true=>(match d with |some id=>Hd id |none=>False)/\k
def so(P:Program)(N:Nat)(W Hd:Nat->Prop)(QP:List gB->AV->AH->Prop)(held:Bool)(o:Oper)(K:St->AH->Prop)(s:St)(h:AH):Prop:=
 match tJ o.op with
 |true=>qOp P o.op (lU s) h fun v d=>ed held Hd d (K (s.put N o.dst v) h)
 |false=>ve P W o.op (lU s) s.ds h (fun v pc h'=>K (({ s with ds:=pc }:St).put N o.dst v) h') (QP s.ds)
def nS(P:Program)(N:Nat)(W:Nat->Nat->Prop)(Hd:Nat->Nat->Prop)(QP:List gB->AV->AH->Prop)(ops:Array Oper):List (Nat×Bool)->(St->AH->Prop)->St->AH->Prop
 |[],K,s,h=>K s h
 |x::rest,K,s,h=>match ops[x.1]? with
  |some o=>so P N (W x.1) (Hd x.1) QP x.2 o (nS P N W Hd QP ops rest K) s h
  |none=>False
def Bh(N:Nat)(ops:Array Oper):List (Nat×Bool)->St->St
 |[],s=>s
 |x::rest,s=>Bh N ops rest (s.put N (km ops x.1) ab)
def aF(x:AV)(a b:Prop):Prop:=
 match x with
 |.sc (.bool t)=>(t=true->a)/\(t=false->b)
 |_=>False
def bw(want:Bool)(x:AV)(a b:Prop):Prop:=
 match x with
 |.sc (.bool t)=>(t=want->a)/\(t=(!want)->b)
 |.sc (.tuple _)=>b
 |_=>False
def lR(P:Program)(N:Nat)(W:Nat->Nat->Prop)(Hd:Nat->Nat->Prop)(QP:List gB->AV->AH->Prop)(ops:Array Oper):List (Option (Nat×Bool)×List (Nat×Bool))->(St->AH->Prop)->St->AH->Prop
 |[],K,s,h=>K s h
 |(none,is)::rest,K,s,h=>nS P N W Hd QP ops is (lR P N W Hd QP ops rest K) s h
 |(some (j,want),is)::rest,K,s,h=>match km ops j with
  |some d=>bw want (s.tm d) (nS P N W Hd QP ops is (lR P N W Hd QP ops rest K) s h) (lR P N W Hd QP ops rest K (Bh N ops is s) h)
  |none=>False
def mg:Nat->Nat->Prop:=fun _ _=>False
mutual
def yf(P:Program)(N:Nat)(W:Nat->Nat->Prop)(Hd:Nat->Nat->Prop)(QP:List gB->AV->AH->Prop)(ops:Array Oper):Way->(St->AH->Prop)->St->AH->Prop
 |.mk path ws,K,s,h=>nS P N W Hd QP ops path (match ws with
   |[]=>K
   |_::_=>fun s h=>oO P N W Hd QP ops ws K s h) s h
def oO(P:Program)(N:Nat)(W:Nat->Nat->Prop)(Hd:Nat->Nat->Prop)(QP:List gB->AV->AH->Prop)(ops:Array Oper):List Way->(St->AH->Prop)->St->AH->Prop
 |[],_,_,_=>True
 |w::r,K,s,h=>yf P N W Hd QP ops w K s h/\oO P N W Hd QP ops r K s h
end
def tZ(P:Program)(N:Nat)(W:Nat->Nat->Prop)(Hd:Nat->Nat->Prop)(QP:List gB->AV->AH->Prop)(ops:Array Oper)(p:uC)(K:St->AH->Prop)(s:St)(h:AH):Prop:=
 match p.alts with
 |[]=>lR P N W Hd QP ops p.ij K s h
 |alts=>lR P N W Hd QP ops p.ij (oO P N W Hd QP ops alts K) s h
abbrev pT:Nat->Prop:=fun _=>False
def DB(pu:List Nat)(W:Nat->Nat->Prop)(j:Nat):Nat->Prop:=match pu.contains j with
 |true=>pT
 |false=>W j
abbrev iZ(W:Nat->Prop)(Hd:Nat->Nat)(l:List Nat):Nat->Prop:=fun id=>W id/\∀i∈l,id≠Hd i
def VS(W:Nat->Prop)(Hd:Nat->Nat):List Nat->Nat->Prop
 |[]=>W
 |i::l=>iZ W Hd (i::l)
theorem It{W:Nat->Prop}{Hd:Nat->Nat}:∀{l:List Nat}{id:Nat},VS W Hd l id->W id/\∀i∈l,id≠Hd i
 |[],_,h=>⟨h,fun _ h=>by simp at h⟩
 |_::_,_,h=>h
def abz(W:Nat->Prop)(Hd:Nat->Nat)(B hl:List Nat)(j:Nat):Nat->Prop:=VS W Hd (hl.filter fun i=>!(B.getD j 0).testBit i)
def lI(P:Program)(N:Nat)(W:Nat->Prop)(QP:List gB->AV->AH->Prop)(pl:dj)(id:Nat)(ops:Array Oper)(K:St->AH->Prop)(s:St)(h:AH):Prop:=
 match sH pl id with
 |none=>nS P N (fun _=>W) mg QP ops (jU ops.size) K s h
 |some p=>match p.held with
  |false=>tZ P N (DB p.pure fun _=>W) mg QP ops p K s h
  |true=>∃Hd:Nat->Nat,(∀i∈jK p,h.obj (Hd i)≠none)/\tZ P N (DB p.pure (abz W Hd (jB .any ops) (jK p))) (fun i id=>id=Hd i) QP ops p K s h
def kY(Hd:Nat->Prop)(E0:Env)(h0:AH)(w0 w:World):Prop:=∀id B,Hd id->h0.obj id≠none->E0 id=some B->w.heap[B.b]?=w0.heap[B.b]?
def TT(P:Program)(S:World->Prop)(o:Oper)(held:Bool)(w0:World):World->Prop:=fun w=>oC P o.op=true->if held then S w else iD w0 w
structure MB (P:Program) (ops:Array Oper) (Q:Exit->Act->World->Prop) (C:Nat->Nat->Bool) (S:Nat->World->Prop) (pu:Nat->Bool) (order:List (Nat×Bool)) (k1:Nat) (D:Nat->Act->World->Prop):Prop where
 quiet:∀k i held o v a w,k1<=k->order[k]?=some (i,held)->ops[i]?=some o->tJ o.op=true->Yq P ops (TT P (S i) o held w) o v a->(held=true->S i w)->D (k+1) (a.put o.dst v) w->D k a w
 GF:∀k i held o a w,k1<=k->order[k]?=some (i,held)->ops[i]?=some o->tJ o.op=false->wpOp P ops Q i (fun a' w'=>((∀l,C i l=true->S l w')/\(FF o.op=true\/pu i=true->iD w w'))/\D (k+1) a' w') a w->D k a w
section
variable {N:Nat} {W:Nat->Prop} {QP:List gB->AV->AH->Prop} {ops:Array Oper} {Q:Exit->Act->World->Prop} {order:List (Nat×Bool)} {D:Nat->Act->World->Prop}
 {E0:Env} {h0:AH} {w0:World}
def VG:Value->Option Bool
 |.bool b=>some b
 |_=>none
def yz(ops:Array Oper)(g:Option (Nat×Bool))(qN:Bool)(s:St):Prop:=
 match g with
 |none=>qN=true
 |some (j,want)=>∃d,km ops j=some d/\(s.tm d=.sc (.bool (if qN then want else !want))\/qN=false/\∃l,s.tm d=.sc (.tuple l))
theorem Dp{g:Option (Nat×Bool)}{qN:Bool}{s:St}{a:Act}{E:Env}(hg:yz ops g qN s)(ha:AR E N s a){o:Oper}(ho:o.guard=g):Region.wanted o (yielded ops a.tmps)=qN:=by
 unfold Region.wanted
 rw[ho]
 cases g with
 |none=>exact hg.symm
 |some g=>
  obtain⟨j,want⟩:=g
  obtain⟨d,hd,hs⟩:=hg
  have h1:=ha.tm d
  unfold km at hd
  have hy:yielded ops a.tmps j=VG (a.tmps.getD d undef):=by
   unfold yielded
   simp only[hd]
   rw[Array.getD_eq_getD_getElem?]
   show(match a.tmps[d]? with |some (.bool b)=>some b |_=>none)=_
   generalize a.tmps[d]?=y
   cases y with
   |none=>rfl
   |some v=>cases v<;>rfl
  show(yielded ops a.tmps j==some want)=qN
  rw[hy]
  rcases hs with hs |⟨Ny,l,hs⟩
  ·rw[hs]at h1
   have h2:a.tmps.getD d undef=.bool (if qN then want else !want):=by
    generalize a.tmps.getD d undef=v at h1
    cases h1;rfl
   rw[h2]
   cases qN<;>cases want<;>rfl
  ·rw[hs]at h1
   have h2:a.tmps.getD d undef=.tuple l:=by
    generalize a.tmps.getD d undef=v at h1
    cases h1;rfl
   rw[h2,Ny];rfl
def O1(ops:Array Oper)(g:Option (Nat×Bool))(dst:Option Nat):Prop:=∀j want d,g=some (j,want)->km ops j=some d->dst≠some d
theorem yz.put{g:Option (Nat×Bool)}{qN:Bool}{s:St}(hg:yz ops g qN s){dst:Option Nat}(hd:O1 ops g dst)(v:AV)(ds:List gB) :
  yz ops g qN (({ s with ds:=ds }:St).put N dst v):=by
 cases g with
 |none=>exact hg
 |some g=>
  obtain⟨j,want⟩:=g
  obtain⟨d,h1,h2⟩:=hg
  refine⟨d,h1,?_⟩
  have h3:=hd j want d rfl h1
  have gT:∀(P:AV->Prop),P (s.tm d)->P (({ s with ds:=ds }:St).put N dst v |>.tm d):=by
   intro P hP
   cases dst with
   |none=>exact hP
   |some e=>
    simp only[St.put]
    split
    ·simp only[fF]
     rw[zW (fun h=>h3 (by rw[h]))]
     exact hP
    ·exact hP
  exact gT (fun x=>x=.sc (.bool (if qN then want else !want))\/qN=false/\∃l,x=.sc (.tuple l)) h2
theorem AR.pc{E:Env}{s:St}{a:Act}(h:AR E N s a):({ s with ds:=s.ds }:St)=s:=rfl
end
end
section
variable {P:Program} {N:Nat} {W:Nat->Prop} {Hd:Nat->Nat->Prop} {QP:List gB->AV->AH->Prop} {ops:Array Oper} {Q:Exit->Act->World->Prop} {order:List (Nat×Bool)} {D:Nat->Act->World->Prop}
 {E0:Env} {h0:AH} {w0:World}
structure IJ (P:Program) (N:Nat) (ops:Array Oper) (hl:List Nat) (C:Nat->Nat->Bool) (pu:Nat->Bool) (order:List (Nat×Bool)) (W:Nat->Prop) (Wf:Nat->Nat->Prop) (Hd:Nat->Nat->Prop) (QP:List gB->AV->AH->Prop) (Q:Exit->Act->World->Prop) (E0:Env) (h0:AH) (w0:World):Prop where
 rel:Rel E0 h0 w0
 hd:∀i id,hl.contains i=true->Hd i id->h0.obj id≠none
 w:∀j i id,C j i=true->Hd i id->¬Wf j id
 wf:∀j id,Wf j id->W id
 pw:∀j id,pu j=true->¬Wf j id
 hc:∀j i,C j i=true->hl.contains i=true
 hh:∀(k:Nat)(x:Nat×Bool),order[k]?=some x->x.2=true->hl.contains x.1=true
 ord:vB ops hl C order=true
 bW:∀v E' h' w' u a ds,Step E0 h0 W w0 E' h' w'->VR E' v u->CH E' ds a.defers->QP ds v h'->Q (.panic [{ v:=u,recovered:=false }]) a w'
theorem vA{C:Nat->Nat->Bool}{k i:Nat}{x:Nat×Bool}(hk:order[k]?=some x):ww ops C order (k+1) i=(ww ops C order k i&&(Bq ops x.1||C x.1 i)):=by
 unfold ww
 rw[List.take_add_one,hk]
 simp
theorem CY{hl:List Nat}{C:Nat->Nat->Bool}(h:vB ops hl C order=true){k:Nat}{x:Nat×Bool}(hk:order[k]?=some x){o:Oper}(ho:ops[x.1]?=some o) :
  (x.2=true->ww ops C order k x.1=true)/\(tJ o.op=false->∀i,hl.contains i=true->C x.1 i=true->ww ops C order k i=true):=by
 unfold vB at h
 rw[List.all_eq_true]at h
 have:=h k (List.mem_range.2 (zM.1 hk).1)
 rw[hk]at this
 simp only[yC,Bool.or_eq_true,Bool.not_eq_true',List.all_eq_true]at this
 refine⟨fun hx=>?_,fun hq i hi hc=>?_⟩
 ·rcases this.1 with h1 |h1
  ·rw[hx]at h1;cases h1
  ·exact h1
 ·rcases this.2 with h1 |h1
  ·unfold Bq at h1;rw[ho]at h1;simp only at h1;rw[hq]at h1;cases h1
  ·rcases h1 i (by simpa using hi) with h2 |h2
   ·rw[hc]at h2;cases h2
   ·exact h2
def HI(ops:Array Oper)(hl:List Nat)(C:Nat->Nat->Bool)(order:List (Nat×Bool))(Hd:Nat->Nat->Prop)(E0:Env)(h0:AH)(w0:World)(k:Nat)(h:AH)(w:World):Prop:=
 ∀i,hl.contains i=true->ww ops C order k i=true->∀id,Hd i id->h.obj id=h0.obj id/\∀B,E0 id=some B->w.heap[B.b]?=w0.heap[B.b]?
theorem HI.start{hl:List Nat}{C:Nat->Nat->Bool}{k:Nat}:HI ops hl C order Hd E0 h0 w0 k h0 w0:=fun _ _ _ _ _=>⟨rfl,fun _ _=>rfl⟩
theorem HI.next{hl:List Nat}{C:Nat->Nat->Bool}{k:Nat}{h:AH}{w:World}(hi:HI ops hl C order Hd E0 h0 w0 k h w){x:Nat×Bool}(hk:order[k]?=some x):HI ops hl C order Hd E0 h0 w0 (k+1) h w:=fun i h1 h2=>by
 rw[vA hk,yC]at h2
 exact hi i h1 h2.1
theorem HI.held{hl:List Nat}{C:Nat->Nat->Bool}{k:Nat}{h:AH}{w:World}(hi:HI ops hl C order Hd E0 h0 w0 k h w){i:Nat}(h1:hl.contains i=true)(h2:ww ops C order k i=true):kY (Hd i) E0 h0 w0 w:=fun id B h3 _ h5=>(hi i h1 h2 id h3).2 B h5
theorem HI.GF{hl:List Nat}{C:Nat->Nat->Bool}{pu:Nat->Bool}{Wf:Nat->Nat->Prop}(cx:IJ P N ops hl C pu order W Wf Hd QP Q E0 h0 w0){k:Nat}{E E':Env}{h h':AH}{w w':World}(hi:HI ops hl C order Hd E0 h0 w0 k h w)(hs:Step E0 h0 W w0 E h w){x:Nat×Bool}(hk:order[k]?=some x)(hq:Bq ops x.1=false)
  (h1:Step E h (Wf x.1) w E' h' w'):HI ops hl C order Hd E0 h0 w0 (k+1) h' w':=by
 intro i hc hp id hd
 rw[vA hk,yC,hq,Bool.false_or]at hp
 obtain⟨e1,e2⟩:=hi i hc hp.1 id hd
 have dx:=cx.hd i id hc hd
 have X2:=cx.w x.1 i id hp.2 hd
 have Db:h.obj id≠none:=by rw[e1];exact dx
 refine⟨by rw[h1.dH id (AH.P_ Db) X2,e1],fun B hB=>?_⟩
 have eD:=hs.env id B hB
 cases ho:h.obj id with
 |none=>exact absurd ho Db
 |some o=>
  obtain⟨B2,Ly,hO⟩:=hs.rel.obj id o ho
  rw[eD]at Ly;cases Ly
  rw[<-e2 B hB]
  refine h1.frame B.b hO.lt ?_
  intro mm B' o' iV eu ZK hE' uX
  rcases hs.rel.inj mm id o' o B' B eu ho hE' eD uX with this |this
  ·subst this
   exact X2 iV
  ·rw[ZK]at this;cases this.1
theorem Rw{op:Op}{ρ:Operand->AV}{h:AH}{K:AV->Option Nat->Prop}(hp:qOp P op ρ h K):qOp P op ρ h (fun v d=>K v d/\∀id,d=some id->h.obj id≠none):=by
 cases hl:oC P op with
 |false=>exact qOp_mono (fun v d h1 h2=>⟨h2,fun id e=>by rw[h1 hl]at e;cases e⟩) hp
 |true=>
  cases op<;>simp only[oC,zE]at hl
  case convert s d x=>
   simp only[qOp,hl]at hp ⊢
   unfold Aw at hp ⊢
   split at hp
   ·obtain⟨o,l,⟨h1,h2,h3⟩,h4⟩:=hp
    exact⟨o,l,⟨h1,h2,h3⟩,h4,fun id e=>by cases e;rw[h1];simp⟩
   ·exact hp.elim
  case lookup t m x ok=>
   simp only[qOp]at hp ⊢
   unfold hG at hp ⊢
   split at hp
   ·obtain⟨o,l,⟨h1,h2⟩,h3⟩:=hp
    exact⟨o,l,⟨h1,h2⟩,r_ (fun v hv=>⟨hv,fun id e=>by cases e;rw[h1];simp⟩) h3⟩
   ·exact r_ (fun v hv=>⟨hv,fun id e=>by cases e⟩) hp
   ·exact hp.elim
  simp only[qOp]at hp ⊢
  unfold ao at hp ⊢
  split at hp
  ·obtain⟨o,c,⟨h1,h2,h3⟩,h4⟩:=hp
   exact⟨o,c,⟨h1,h2,h3⟩,h4,fun id e=>by cases e;rw[h1];simp⟩
  ·obtain⟨o,⟨h1,h2,h3⟩,h4⟩:=hp
   exact⟨o,⟨h1,h2,h3⟩,h4,fun id e=>by cases e;rw[h1];simp⟩
  ·exact hp.elim
theorem Js{op:Op}(hA:FF op=true){ρ:Operand->AV}{ds:List gB}{h:AH}{K:AV->List gB->AH->Prop}{KP:AV->AH->Prop}(hp:ve P W op ρ ds h K KP):ve P (fun _=>False) op ρ ds h K KP:=by
 cases op<;>simp only[FF,zE]at hA<;>first |exact hp |(rename_i t r;cases r<;>first |exact hp |exact hp.elim)
theorem Ij{E:Env}{w:World}{s:St}{a:Act}{h:AH}{K:AV->List gB->AH->Prop}{KP:AV->AH->Prop}(o:Oper)(hr:Rel E h w)(ha:AR E N s a)
  (hp:ve P W o.op (lU s) s.ds h K KP) {next:Act->World->Prop} {Q:Exit->Act->World->Prop}
  (hn:∀v pc E' h' w' a',Step E h W w E' h' w'->(FF o.op=true\/(∀id,¬W id)->iD w w')->AR E' N (({ s with ds:=pc }:St).put N o.dst v) a'->K v pc h'->next a' w')
  (hq:∀v E' h' w' u,Step E h W w E' h' w'->VR E' v u->KP v h'->Q (.panic [{ v:=u,recovered:=false }]) a w'):o.wp P a w next Q:=by
 by_cases hA:FF o.op=true
 ·refine GG o hr ha (Js hA hp) ?_ ?_
  ·intro v pc E' h' w' a' h1 h2 h3
   exact hn v pc E' h' w' a' ((Step.refl hr).trans hr h1 (fun id _ hm=>hm.elim)) (fun _ b hb=>h1.frame b hb fun _ _ _ hm=>hm.elim) h2 h3
  ·intro v E' h' w' u h1 h2 h3
   exact hq v E' h' w' u ((Step.refl hr).trans hr h1 (fun id _ hm=>hm.elim)) h2 h3
 ·exact GG o hr ha hp (fun v pc E' h' w' a' h1 h2 h3=>hn v pc E' h' w' a' h1 (fun h=>h.elim (fun h=>absurd h hA) fun hn b hb=>h1.frame b hb fun id _ _ hm=>absurd hm (hn id)) h2 h3) hq
theorem Cm{hl:List Nat}{C:Nat->Nat->Bool}{pu:Nat->Bool}{Wf:Nat->Nat->Prop}(cx:IJ P N ops hl C pu order W Wf Hd QP Q E0 h0 w0){k1:Nat}(dv:MB P ops Q C (fun i=>kY (Hd i) E0 h0 w0) pu order k1 D)(g:Option (Nat×Bool)){K:St->AH->Prop} :
  ∀(is:List (Nat×Bool))(k:Nat)(s:St)(a:Act)(E:Env)(h:AH)(w:World),k1<=k->(∀m x,is[m]?=some x->order[k+m]?=some x)->oK ops (g,is)=true->yz ops g true s ->
   Step E0 h0 W w0 E h w->HI ops hl C order Hd E0 h0 w0 k h w->AR E N s a->nS P N Wf Hd QP ops is K s h ->
   (∀s' a' E' h' w',Step E0 h0 W w0 E' h' w'->HI ops hl C order Hd E0 h0 w0 (k+is.length) h' w'->AR E' N s' a'->K s' h'->D (k+is.length) a' w')->D k a w
 |[],k,s,a,E,h,w,_,_,_,_,hs,hI,ha,he,hK=>hK s a E h w hs hI ha he
 |x::is,k,s,a,E,h,w,pG,ho,hg,hi,hs,hI,ha,he,hK=>by
  obtain⟨i,held⟩:=x
  have hk:order[k]?=some (i,held):=by simpa using ho 0 (i,held) rfl
  simp only[nS]at he
  split at he
  ·rename_i o j_
   simp only[oK,List.all_cons,j_,yC]at hg
   obtain⟨⟨H3,lf⟩,Qz⟩:=hg
   have FZ:o.guard=g:=by simpa using H3
   have Jm:O1 ops g o.dst:=by
    intro j want d ka hd
    subst ka
    simp only[hd]at lf
    simpa using lf
   have vN:=Dp hi ha FZ
   have BM:∀m x,is[m]?=some x->order[k+1+m]?=some x:=fun m x hm=>by
    have:=ho (m+1) x (by simpa using hm)
    rw[show k+1+m=k+(m+1) from by omega];exact this
   have vP:=CY cx.ord hk j_
   have QL:held=true->kY (Hd i) E0 h0 w0 w:=fun hp=>hI.held (cx.hh k _ hk hp) (vP.1 hp)
   have Ve:=hI.next hk
   have Yg:∀s' a' E' h' w',Step E0 h0 W w0 E' h' w'->HI ops hl C order Hd E0 h0 w0 (k+1+is.length) h' w'->AR E' N s' a'->K s' h'->D (k+1+is.length) a' w':=fun s' a' E' h' w' h1 uY h2 h3=>by
    rw[show k+1+is.length=k+(is.length+1) from by omega]at uY ⊢
    exact hK s' a' E' h' w' h1 uY h2 h3
   unfold so at he
   split at he
   ·rename_i hq
    have nk:=qOp_mono (K':=fun v d=>(oC P o.op=false->d=none)/\ed held (Hd i) d (nS P N Wf Hd QP ops is K (s.put N o.dst v) h)/\∀id,d=some id->h.obj id≠none) (fun v d h1 h2=>⟨h1,h2⟩) (Rw he)
    obtain⟨av,u,d,hv,⟨D1,rO,hd4⟩,hd3,iE⟩:=Ki o hs.rel ha nk
    have fI:nS P N Wf Hd QP ops is K (s.put N o.dst av) h:=by
     unfold ed at rO
     split at rO
     ·exact rO
     ·exact rO.2
    refine dv.quiet k i held o u a w pG hk j_ hq (.inl ⟨vN,fun w' iV=>iE w' ?_⟩) QL ?_
    ·intro id B QF hB
     cases hl:oC P o.op with
     |false=>rw[D1 hl]at QF;cases QF
     |true=>
      cases held with
      |false=>
       have iV:iD w w':=by simpa using iV hl
       have ld:=hd4 id QF
       cases ho:h.obj id with
       |none=>exact absurd ho ld
       |some o2=>
        obtain⟨B2,Ly,hO2⟩:=hs.rel.obj id o2 ho
        rw[hB]at Ly;cases Ly
        exact iV B.b hO2.lt
      |true=>
       have hS:=QL rfl
       have iV:kY (Hd i) E0 h0 w0 w':=by simpa using iV hl
       simp only[ed,QF]at rO
       have NJ:=cx.hd i id (cx.hh k _ hk rfl) rO.1
       obtain⟨B0,ki⟩:=cx.rel.Vt NJ
       have:=hs.env id B0 ki
       rw[hB]at this;cases this
       rw[iV id B rO.1 NJ ki,hS id B rO.1 NJ ki]
    ·exact Cm cx dv g is (k+1) _ _ E h w (by omega) BM Qz (by simpa using hi.put Jm av s.ds) hs Ve (ha.put _ hv) fI Yg
   ·rename_i hq
    refine dv.GF k i held o a w pG hk j_ hq ?_
    unfold wpOp
    simp only[j_,vN,zV]
    have ni:tJ o.op=false:=by simpa using hq
    have HV:Bq ops i=false:=by unfold Bq;rw[j_];exact ni
    refine .inl (Ij o hs.rel ha he ?_ ?_)
    ·intro v pc E' h' w' a' h1 hA h2 h3
     have Lh:=hs.trans cx.rel h1 (fun id _ hm=>.inl (cx.wf i id hm))
     have Lx:=HI.GF cx hI hs hk HV h1
     refine⟨⟨fun l hc=>?_,fun hh=>hA (hh.imp (fun h=>h) fun hp id hw=>cx.pw i id hp hw)⟩,Cm cx dv g is (k+1) _ _ E' h' w' (by omega) BM Qz (hi.put Jm v pc) Lh Lx h2 h3 Yg⟩
     have pI:=cx.hc i l hc
     exact Lx.held pI (by rw[vA hk,vP.2 ni l pI hc,hc,Bool.or_true];rfl)
    ·intro v E' h' w' u h1 h2 h3
     exact cx.bW v E' h' w' u a s.ds (hs.trans cx.rel h1 (fun id _ hm=>.inl (cx.wf i id hm))) h2 (ha.ds.mono h1.env) h3
  ·exact he.elim
theorem J8{hl:List Nat}{C:Nat->Nat->Bool}{pu:Nat->Bool}{Wf:Nat->Nat->Prop}(cx:IJ P N ops hl C pu order W Wf Hd QP Q E0 h0 w0){k1:Nat}(dv:MB P ops Q C (fun i=>kY (Hd i) E0 h0 w0) pu order k1 D)(g:Option (Nat×Bool)) :
  ∀(is:List (Nat×Bool))(k:Nat)(s:St)(a:Act)(E:Env)(h:AH)(w:World),k1<=k->(∀m x,is[m]?=some x->order[k+m]?=some x)->oK ops (g,is)=true->yz ops g false s ->
   Step E0 h0 W w0 E h w->HI ops hl C order Hd E0 h0 w0 k h w->AR E N s a ->
   (∀a',Step E0 h0 W w0 E h w->HI ops hl C order Hd E0 h0 w0 (k+is.length) h w->AR E N (Bh N ops is s) a'->D (k+is.length) a' w)->D k a w
 |[],k,s,a,E,h,w,_,_,_,_,hs,hI,ha,hK=>hK a hs hI ha
 |x::is,k,s,a,E,h,w,pG,ho,hg,hi,hs,hI,ha,hK=>by
  obtain⟨i,held⟩:=x
  have hk:order[k]?=some (i,held):=by simpa using ho 0 (i,held) rfl
  have ZO:∃o,ops[i]?=some o:=by
   simp only[oK,List.all_cons,yC]at hg
   cases h:ops[i]? with
   |none=>rw[h]at hg;simp at hg
   |some o=>exact⟨o,rfl⟩
  obtain⟨o,j_⟩:=ZO
  simp only[oK,List.all_cons,j_,yC]at hg
  obtain⟨⟨H3,lf⟩,Qz⟩:=hg
  have FZ:o.guard=g:=by simpa using H3
  have Jm:O1 ops g o.dst:=by
   intro j want d ka hd
   subst ka
   simp only[hd]at lf
   simpa using lf
  have vN:=Dp hi ha FZ
  have BM:∀m x,is[m]?=some x->order[k+1+m]?=some x:=fun m x hm=>by
   have:=ho (m+1) x (by simpa using hm)
   rw[show k+1+m=k+(m+1) from by omega];exact this
  have vP:=CY cx.ord hk j_
  have QL:held=true->kY (Hd i) E0 h0 w0 w:=fun hp=>hI.held (cx.hh k _ hk hp) (vP.1 hp)
  have Ve:=hI.next hk
  have WE:km ops i=o.dst:=by simp[km,j_]
  have next:D (k+1) (a.put o.dst undef) w:=by
   refine J8 cx dv g is (k+1) (s.put N o.dst ab) _ E h w (by omega) BM Qz (by simpa using hi.put Jm ab s.ds) hs Ve (ha.put _ (.sc _)) ?_
   intro a' pE QO Vd
   rw[show k+1+is.length=k+(is.length+1) from by omega]at QO ⊢
   exact hK a' pE QO (by simp only[Bh,WE];exact Vd)
  by_cases hq:tJ o.op=true
  ·exact dv.quiet k i held o undef a w pG hk j_ hq (.inr ⟨vN,rfl⟩) QL next
  ·refine dv.GF k i held o a w pG hk j_ (by simpa using hq) ?_
   unfold wpOp
   simp only[j_,vN,zE,if_false]
   exact⟨⟨fun l hc=>hI.held (cx.hc i l hc) (vP.2 (by simpa using hq) l (cx.hc i l hc) hc),fun _=>iD.refl⟩,next⟩
theorem Cn{hl:List Nat}{C:Nat->Nat->Bool}{pu:Nat->Bool}{Wf:Nat->Nat->Prop}(cx:IJ P N ops hl C pu order W Wf Hd QP Q E0 h0 w0){k1:Nat}(dv:MB P ops Q C (fun i=>kY (Hd i) E0 h0 w0) pu order k1 D){K:St->AH->Prop}
  (U3:∀s' a' E' h' w',Step E0 h0 W w0 E' h' w'->HI ops hl C order Hd E0 h0 w0 order.length h' w'->AR E' N s' a'->K s' h'->D order.length a' w') :
  ∀(gs:List (Option (Nat×Bool)×List (Nat×Bool)))(k:Nat)(s:St)(a:Act)(E:Env)(h:AH)(w:World),k1<=k->(∀m,(gs.flatMap (·.2))[m]?=order[k+m]?)->k+(gs.flatMap (·.2)).length=order.length->gs.all (oK ops)=true ->
   Step E0 h0 W w0 E h w->HI ops hl C order Hd E0 h0 w0 k h w->AR E N s a->lR P N Wf Hd QP ops gs K s h->D k a w
 |[],k,s,a,E,h,w,_,ho,Lm,_,hs,hI,ha,he=>by
  have:k=order.length:=by simpa using Lm
  rw[this]at hI ⊢
  exact U3 s a E h w hs hI ha he
 |(g,is)::gs,k,s,a,E,h,w,pG,ho,Lm,hg,hs,hI,ha,he=>by
  simp only[List.flatMap_cons,List.length_append]at Lm
  simp only[List.all_cons,yC]at hg
  obtain⟨H3,lf⟩:=hg
  have UJ:∀m x,is[m]?=some x->order[k+m]?=some x:=by
   intro m x hm
   rw[<-ho m]
   simp only[List.flatMap_cons]
   rw[List.getElem?_append_left (zM.1 hm).1]
   exact hm
  have WJ:∀m,(gs.flatMap (·.2))[m]?=order[k+is.length+m]?:=by
   intro m
   have:=ho (is.length+m)
   simp only[List.flatMap_cons]at this
   rw[List.getElem?_append_right (by omega),Nat.add_sub_cancel_left]at this
   rw[this,Nat.add_assoc]
  have rest:∀s' a' E' h' w',Step E0 h0 W w0 E' h' w'->HI ops hl C order Hd E0 h0 w0 (k+is.length) h' w'->AR E' N s' a'->lR P N Wf Hd QP ops gs K s' h'->D (k+is.length) a' w':=
   fun s' a' E' h' w' h1 uY h2 h3=>Cn cx dv U3 gs (k+is.length) s' a' E' h' w' (by omega) WJ (by omega) lf h1 uY h2 h3
  have qN:yz ops g true s->nS P N Wf Hd QP ops is (lR P N Wf Hd QP ops gs K) s h->D k a w:=fun hi he=>Cm cx dv g is k s a E h w pG UJ H3 hi hs hI ha he rest
  have no:yz ops g false s->lR P N Wf Hd QP ops gs K (Bh N ops is s) h->D k a w:=fun hi he=>J8 cx dv g is k s a E h w pG UJ H3 hi hs hI ha fun a' pE QO Vd=>rest _ a' E h w pE QO Vd he
  cases g with
  |none=>exact qN rfl he
  |some g=>
   obtain⟨j,want⟩:=g
   simp only[lR]at he
   split at he
   ·rename_i d hd
    unfold bw at he
    split at he
    ·rename_i t ht
     by_cases hw:t=want
     ·exact qN ⟨d,hd,.inl (by simpa[<-hw] using ht)⟩ (he.1 hw)
     ·have iV:t=!want:=by cases t<;>cases want<;>simp_all
      exact no ⟨d,hd,.inl (by simpa[<-iV] using ht)⟩ (he.2 iV)
    ·rename_i l ht
     exact no ⟨d,hd,.inr ⟨rfl,l,ht⟩⟩ he
    ·exact he.elim
   ·exact he.elim
end
section
variable {P:Program} {N:Nat} {W:Nat->Prop} {QP:List gB->AV->AH->Prop} {ops:Array Oper} {Q:Exit->Act->World->Prop}
theorem drop_cons{order:List (Nat×Bool)}{k:Nat}{x:Nat×Bool}(hk:order[k]?=some x):order.drop k=x::order.drop (k+1):=by
 have aL:=(zM.1 hk).1
 rw[List.drop_eq_getElem_cons aL];congr 1
 rw[zJ aL]at hk;exact Option.some.inj hk
theorem LX{C:Nat->Nat->Bool}{S:Nat->World->Prop}{pu:Nat->Bool}(order:List (Nat×Bool)):MB P ops Q C S pu order 0 (fun k a w=>wpOps P ops Q ((order.drop k).map (·.1)) a w) where
 quiet k i held o v a w _ hk j_ hq hy hS hD:=by
  show wpOps P ops Q ((order.drop k).map (·.1)) a w
  rw[drop_cons hk,List.map_cons,wpOps_cons]
  exact Yq.wpOp j_ hy (fun _=>by split;exact hS ‹_›;exact iD.refl) hD
 GF k i held o a w _ hk j_ hq hw:=by
  show wpOps P ops Q ((order.drop k).map (·.1)) a w
  rw[drop_cons hk,List.map_cons,wpOps_cons]
  exact wpOp_mono (fun a' w' h=>h.2) hw
def cu(n:Nat)(order:List (Nat×Bool))(k:Nat):Array Bool:=iI (order.take k) (Array.replicate n false)
theorem rE{n:Nat}{order:List (Nat×Bool)}{k:Nat}{x:Nat×Bool}(hk:order[k]?=some x):cu n order (k+1)=(cu n order k).setIfInBounds x.1 true:=by
 unfold cu iI
 rw[List.take_add_one,hk]
 simp
theorem vm{pu B:List Nat}:∀(order:List (Nat×Bool))(listed:Array Bool),sr P pu ops B order listed=true->∀k x,order[k]?=some x->oh P pu ops B (iI (order.take k) listed) x=true
 |[],listed,h,k,x,hk=>by simp at hk
 |y::order,listed,h,k,x,hk=>by
  simp only[sr,yC]at h
  cases k with
  |zero=>simp at hk;subst hk;simpa[iI] using h.1
  |succ k=>simpa[iI] using vm order _ h.2 k x (by simpa using hk)
theorem xF{listed:Array Bool}{i:Nat}{pu B:List Nat}{x:Nat×Bool}(h:oh P pu ops B listed x=true)(hi:x.1=i):i∈Region.ready .any ops listed:=by
 subst hi
 unfold oh at h
 split at h
 ·cases h
 ·split at h
  ·simp only[yC,List.contains_iff_mem]at h;exact h.1
  ·simp only[beq_iff_eq]at h;rw[h];simp
theorem oG{pu B:List Nat}{order:List (Nat×Bool)}{k1:Nat}(ig:∀k x,k1<=k->order[k]?=some x->oh P pu ops B (cu ops.size order k) x=true)(pI:i_ .any ops (cu ops.size order k1)) :
  ∀m,i_ .any ops (cu ops.size order (k1+m))
 |0=>pI
 |m+1=>by
  cases hk:order[k1+m]? with
  |none=>
   have:cu ops.size order (k1+(m+1))=cu ops.size order (k1+m):=by
    unfold cu;rw[<-Nat.add_assoc,List.take_add_one,hk];simp
   rw[this];exact oG ig pI m
  |some x=>
   rw[<-Nat.add_assoc,rE hk]
   exact(oG ig pI m).set (xF (ig _ x (by omega) hk) rfl)
theorem uz(order:List (Nat×Bool)):i_ .any ops (cu ops.size order 0):=by
 intro j o hj
 simp only[cu,iI,List.take_zero,List.foldl_nil]at hj
 rw[Array.getD_eq_getD_getElem?]at hj
 simp only[Array.getElem?_replicate]at hj
 split at hj<;>cases hj
theorem AP{hl pu:List Nat}{S:Nat->World->Prop}(hSh:∀l w w',S l w->w'.heap=w.heap->S l w')(hQ:∀dst v c a w,Q (.panic c) (Act.put a dst v) w->Q (.panic c) a w){order:List (Nat×Bool)}{k1:Nat}
  (xO:Region.noSelect ops=true) (hh:∀(k:Nat)(x:Nat×Bool),order[k]?=some x->x.2=true->hl.contains x.1=true) (ig:∀k x,k1<=k->order[k]?=some x->oh P pu ops (jB .any ops) (cu ops.size order k) x=true) (pI:i_ .any ops (cu ops.size order k1)) (hlen:order.length<=ops.size) :
  MB P ops Q (CC (jB .any ops) hl) S (fun i=>pu.contains i) order k1 (fun k a w=>mW P .any ops Q (CC (jB .any ops) hl) S (fun i=>pu.contains i) (ops.size-k) (cu ops.size order k) a w) where
 quiet k i held o v a w pG hk j_ hq hy hS hD:=by
  have aL:=(zM.1 hk).1
  have ig:=ig k _ pG hk
  have gA:=xF ig rfl
  have hn:ops.size-k=(ops.size-(k+1))+1:=by omega
  have aaJ:i_ .any ops (cu ops.size order k):=by
   have:=oG (P:=P) (pu:=pu) (ops:=ops) (B:=jB .any ops) (order:=order) (k1:=k1) (by assumption) pI (k-k1)
   rwa [show k1+(k-k1)=k from by omega]at this
  simp only[hn]
  refine LL j_ hq (Region.noSelect_spec xO) (fun c a w=>hQ _ _ c a w) _ _ a w aaJ ?_ gA hy (fun _=>by split;exact hS ‹_›;exact iD.refl) ?_
  ·intro j oj FU mq Qp Qu
   unfold oh at ig
   simp only[j_,hq,zV,yC,List.all_eq_true,List.mem_range]at ig
   have aaz:j<ops.size:=(Array.getElem?_eq_some_iff.1 FU).1
   have h2:=ig.2 j aaz
   simp only[FU,Bool.or_eq_true,beq_iff_eq]at h2
   rcases h2 with((h2 |h2) |h2) |h2
   ·exact absurd h2 mq
   ·rw[Qp]at h2;cases h2
   ·exact absurd (L9 h2) Qu
   ·simp only[yC,Bool.or_eq_true]at h2
    refine⟨h2.1,fun w1 w2 hT hR hl=>?_⟩
    have hT:=hT hl
    unfold RR at hR
    cases held with
    |true=>
     simp only[zV]at hT ⊢
     split at hR
     ·exact hSh i w1 w2 hT hR
     ·rename_i hn
      rcases h2.2 with(h3 |h3) |h3
      ·simp[hl]at h3
      ·exact absurd h3 hn
      ·refine hR.1 i ?_
       unfold CC
       rw[hh k _ hk rfl,Bool.true_and,Bool.not_eq_true']
       cases hb:((jB .any ops).getD j 0).testBit i with
       |false=>rfl
       |true=>exact absurd (L9 hb) Qu
    |false=>
     simp only[zE,if_false]at hT ⊢
     split at hR
     ·exact hT.trans (.of_heap hR)
     ·rename_i hn
      rcases h2.2 with(h3 |h3) |h3
      ·simp[hl]at h3
      ·exact absurd h3 hn
      ·exact hT.trans (hR.2 (by simpa using h3))
  ·rw[<-rE (x:=(i,held)) hk];exact hD
 GF k i held o a w pG hk j_ hq hw:=by
  have aL:=(zM.1 hk).1
  have ig:=ig k _ pG hk
  have hn:ops.size-k=(ops.size-(k+1))+1:=by omega
  simp only[hn]
  unfold oh at ig
  simp only[j_,hq,zE,if_false,beq_iff_eq]at ig
  have C8:Region.ready .any ops (cu ops.size order k)=[i]:=ig
  refine⟨fun h=>(by rw[C8]at h;cases h),fun j hj=>?_⟩
  rw[C8]at hj
  have:j=i:=by simpa using hj
  subst this
  refine wpOp_mono (fun a' w' h=>⟨fun o' eu=>?_,?_⟩) hw
  ·rw[j_]at eu;cases eu
   unfold RR;rw[zW (by simp[hq])];exact h.1
  ·rw[<-rE (x:=(j,held)) hk];exact h.2
theorem Hl{draw:Bool}{p:uC}(h:Fo P ops draw p=true) :
  p.ij.all (oK ops)=true/\(draw=false->p.ij.flatMap (·.2)=jU ops.size/\p.alts=[]) /\
  (draw=true->(sr P p.pure ops (jB .any ops) (p.ij.flatMap (·.2)) (Array.replicate ops.size false)=true/\vB ops (jK p) (CC (jB .any ops) (jK p)) (p.ij.flatMap (·.2))=true)/\Region.noSelect ops=true /\
   Region.ready .any ops (iI (p.ij.flatMap (·.2)) (Array.replicate ops.size false))=kO p.alts /\
   (p.alts=[]->(p.ij.flatMap (·.2)).length=ops.size) /\
   (p.alts≠[]->qW P p.pure ops (jB .any ops) (jK p) p.alts (p.ij.flatMap (·.2)) (iI (p.ij.flatMap (·.2)) (Array.replicate ops.size false))=true)):=by
 unfold Fo at h
 simp only[yC]at h
 obtain⟨h0,h⟩:=h
 refine⟨h0,fun hd=>?_,fun hd=>?_⟩
 ·subst hd
  simp only[yC,beq_iff_eq,List.isEmpty_iff]at h
  exact h
 ·subst hd
  simp only[yC,beq_iff_eq]at h
  obtain⟨⟨⟨⟨h1,h5⟩,h2⟩,h3⟩,h4⟩:=h
  refine⟨⟨h1,h5⟩,h2,h3,fun he=>?_,fun dx=>?_⟩
  ·rw[zX (by simpa using he)]at h4;simpa using h4
  ·rw[zW (by simpa using dx)]at h4;exact h4
theorem B3{p:uC}{x:Nat×Bool}(hx:x∈p.ij.flatMap (·.2)\/x∈pC p.alts)(h2:x.2=true):(jK p).contains x.1=true:=by
 rw[List.contains_iff_mem]
 unfold jK
 exact List.mem_map.2 ⟨x,List.mem_filter.2 ⟨List.mem_append.2 hx,h2⟩,rfl⟩
inductive AX where
 |normal
 |exit (id:Nat)
 |goto (l:Nat)
 |ret
def XR:AX->Exit->Prop
 |.normal,.normal=>True
 |.exit i,.exit j=>i=j
 |.goto i,.goto j=>i=j
 |.ret,.ret=>True
 |_,_=>False
abbrev cH:=AX->St->AH->Prop
abbrev cb:=List gB->AV->AH->Prop
def bJ(K:St->AH->Prop)(Q:cH):cH
 |.normal,s,h=>K s h
 |x,s,h=>Q x s h
def df(id:Nat)(Q:cH):cH
 |.exit j,s,h=>if j=id then Q .normal s h else Q (.exit j) s h
 |x,s,h=>Q x s h
def qL(F:cH->cb->St->AH->Prop):Nat->cH->cb->St->AH->Prop
 |0,_,_,_,_=>False
 |n+1,Q,QP,s,h=>F (bJ (fun s h=>qL F n Q QP s h) Q) QP s h
def hJ(F:cH->cb->St->AH->Prop)(Q:cH)(QP:cb)(s:St)(h:AH):Prop:=∃n,qL F n Q QP s h
def qo(Q:cH):cH
 |.goto _,_,_=>False
 |x,s,h=>Q x s h
def aw(P:Program)(N:Nat)(W:Nat->Prop)(pl:dj):Code->cH->cb->St->AH->Prop
 |.skip,Q,_,s,h=>Q .normal s h
 |.label _,Q,_,s,h=>Q .normal s h
 |.exit id,Q,_,s,h=>Q (.exit id) s h
 |.goto l,Q,_,s,h=>Q (.goto l) s h
 |.ret,Q,_,s,h=>Q .ret s h
 |.seq a b,Q,QP,s,h=>aw P N W pl a (bJ (aw P N W pl b Q QP) Q) QP s h
 |.cond c a b,Q,QP,s,h=>aF (lU s c) (aw P N W pl a Q QP s h) (aw P N W pl b Q QP s h)
 |.block id c,Q,QP,s,h=>aw P N W pl c (df id Q) QP s h
 |.loop c,Q,QP,s,h=>hJ (aw P N W pl c) Q QP s h
 |.scope c,Q,QP,s,h=>aw P N W pl c (qo Q) QP s h
 |.region id ops _,Q,QP,s,h=>lI P N W QP pl id ops (Q .normal) s h
 |.rangeFunc ..,_,_,_,_=>False
 |.refuse _,_,_,_,_=>False
def CQ(E0:Env)(h0:AH)(W:Nat->Prop)(w0:World)(N:Nat)(Q:cH)(QP:cb):Exit->Act->World->Prop:=fun e a w=>
 (∃x E h s,XR x e/\Step E0 h0 W w0 E h w/\AR E N s a/\Q x s h) \/
 (∃v u E h ds,e=.panic [{ v:=u,recovered:=false }]/\Step E0 h0 W w0 E h w/\VR E v u/\CH E ds a.defers/\QP ds v h)
theorem CQ.trans{E0 E1:Env}{h0 h1:AH}{w0 w1:World}{Q:cH}{QP:cb}{e:Exit}{a:Act}{w:World}(hr:Rel E0 h0 w0)(hs:Step E0 h0 W w0 E1 h1 w1)(hc:CQ E1 h1 W w1 N Q QP e a w):CQ E0 h0 W w0 N Q QP e a w:=by
 rcases hc with⟨x,E,h,s,a1,a2,a3,a4⟩ |⟨v,u,E,h,ds,a1,a2,a3,a4⟩
 ·exact .inl ⟨x,E,h,s,a1,hs.trans hr a2 (fun _ _ hm=>.inl hm),a3,a4⟩
 ·exact .inr ⟨v,u,E,h,ds,a1,hs.trans hr a2 (fun _ _ hm=>.inl hm),a3,a4⟩
section
variable {hl pu:List Nat} {Wf:Nat->Nat->Prop} {Hd:Nat->Nat->Prop} {K:St->AH->Prop} {E:Env} {h:AH} {w0:World}
structure ED (P:Program) (N:Nat) (W:Nat->Prop) (QP:List gB->AV->AH->Prop) (ops:Array Oper) (Q:Exit->Act->World->Prop) (hl pu:List Nat) (Wf:Nat->Nat->Prop) (Hd:Nat->Nat->Prop) (K:St->AH->Prop) (E:Env) (h:AH) (w0:World):Prop where
 rel:Rel E h w0
 wf:∀i id,Wf i id->W id
 Xw:Region.noSelect ops=true
 put:∀dst v c a' w',Q (.panic c) (Act.put a' dst v) w'->Q (.panic c) a' w'
 heap:∀(l:Nat)(w1 w2:World),kY (Hd l) E h w0 w1->w2.heap=w1.heap->kY (Hd l) E h w0 w2
 cx:∀ord:List (Nat×Bool),(∀(k:Nat)(x:Nat×Bool),ord[k]?=some x->x.2=true->hl.contains x.1=true)->vB ops hl (CC (jB .any ops) hl) ord=true->IJ P N ops hl (CC (jB .any ops) hl) (fun i=>pu.contains i) ord W Wf Hd QP Q E h w0
 last:∀s' a' E' h' w',Step E h W w0 E' h' w'->AR E' N s' a'->K s' h'->Q .normal a' w'
mutual
theorem Ti(dc:ED P N W QP ops Q hl pu Wf Hd K E h w0):∀(wy:Way)(order:List (Nat×Bool)),yF P pu ops (jB .any ops) hl wy order (cu ops.size order order.length)=true ->
  (∀(k:Nat)(x:Nat×Bool),order[k]?=some x->x.2=true->hl.contains x.1=true)->(∀x∈wy.Eu,x.2=true->hl.contains x.1=true)->i_ .any ops (cu ops.size order order.length) ->
  (∀i,i∈(wy.path.head?.map (·.1))->i∈Region.ready .any ops (cu ops.size order order.length)) ->
  ∀(s1:St)(a1:Act)(E1:Env)(h1:AH)(w1:World),Step E h W w0 E1 h1 w1->HI ops hl (CC (jB .any ops) hl) order Hd E h w0 order.length h1 w1->AR E1 N s1 a1->yf P N Wf Hd QP ops wy K s1 h1 ->
  ∃i,wy.path.head?.map (·.1)=some i/\order.length<ops.size/\wpOp P ops Q i (fun a' w'=>(∀o,ops[i]?=some o->RR (CC (jB .any ops) hl) (fun l=>kY (Hd l) E h w0) (fun i=>pu.contains i) i o w1 w') /\
   mW P .any ops Q (CC (jB .any ops) hl) (fun l=>kY (Hd l) E h w0) (fun i=>pu.contains i) (ops.size-(order.length+1)) ((cu ops.size order order.length).setIfInBounds i true) a' w') a1 w1
 |.mk path ws,order,ed,xS,zp,xU,Qr,s1,a1,E1,eS,w1,pF,uY,B8,BZ=>by
  cases path with
  |nil=>simp[yF]at ed
  |cons x rest=>
  obtain⟨i,hd⟩:=x
  refine⟨i,rfl,?_⟩
  unfold yF at ed
  simp only[yC,Nat.ble_eq,beq_iff_eq]at ed
  obtain⟨⟨⟨⟨⟨⟨⟨hq,hso⟩,nj⟩,Lm⟩,NI⟩,zi⟩,aaD⟩,hwo⟩:=ed
  simp only[List.length_cons]at Lm
  refine⟨by omega,?_⟩
  have Qy:∀(k:Nat)(x:Nat×Bool),(order++(i,hd)::rest)[k]?=some x->x.2=true->hl.contains x.1=true:=fun k x hk hx=>by
   rw[List.getElem?_append]at hk
   split at hk
   ·exact xS k x hk hx
   ·exact zp x (by unfold Way.Eu;exact List.mem_append_left _ (zP hk)) hx
  have WN:i∈Region.ready .any ops (cu ops.size order order.length):=Qr i (by simp[Way.path])
  unfold yf at BZ
  cases j_:ops[i]? with
  |none=>rw[j_]at hq;simp at hq
  |some o=>
   rw[j_]at hq
   have ni:tJ o.op=false:=by simpa using hq
   simp only[oK,List.all_cons,j_,yC]at nj
   obtain⟨⟨FZ,_⟩,nj⟩:=nj
   have FZ:o.guard=none:=by simpa using FZ
   have vN:Region.wanted o (yielded ops a1.tmps)=true:=by simp[Region.wanted,FZ]
   simp only[nS,j_,so,ni]at BZ
   unfold wpOp
   simp only[j_,vN,zV]
   have Dc:∀m x,rest[m]?=some x->(order++(i,hd)::rest)[order.length+1+m]?=some x:=by
    intro m x hm
    rw[List.getElem?_append_right (by omega),show order.length+1+m-order.length=m+1 from by omega];simpa using hm
   have FW:∀m,cu ops.size (order++(i,hd)::rest) (order.length+1+m)=iI (rest.take m) ((cu ops.size order order.length).setIfInBounds i true):=by
    intro m
    unfold cu iI
    rw[List.take_append,List.take_of_length_le (by omega),show order.length+1+m-order.length=m+1 from by omega]
    simp
   have Xv:∀k x,order.length+1<=k->(order++(i,hd)::rest)[k]?=some x->oh P pu ops (jB .any ops) (cu ops.size (order++(i,hd)::rest) k) x=true:=by
    intro k x hk hx
    obtain⟨m,rfl⟩:∃m,k=order.length+1+m:=⟨k-(order.length+1),by omega⟩
    rw[FW]
    refine vm rest _ hso m x ?_
    rw[List.getElem?_append_right (by omega),show order.length+1+m-order.length=m+1 from by omega]at hx
    simpa using hx
   have U7:i_ .any ops (cu ops.size (order++(i,hd)::rest) (order.length+1)):=by
    have:=FW 0
    simp only[Nat.add_zero,List.take_zero]at this
    rw[this]
    exact xU.set WN
   have Jj:cu ops.size (order++(i,hd)::rest) (order++(i,hd)::rest).length=iI ((i,hd)::rest) (cu ops.size order order.length):=by
    rw[show(order++(i,hd)::rest).length=order.length+1+rest.length from by simp;omega,FW]
    simp[iI]
   have aaI:i_ .any ops (cu ops.size (order++(i,hd)::rest) (order++(i,hd)::rest).length):=by
    have:=oG (P:=P) (pu:=pu) (ops:=ops) (B:=jB .any ops) (order:=order++(i,hd)::rest) (k1:=order.length+1) Xv U7 rest.length
    rwa [show order.length+1+rest.length=(order++(i,hd)::rest).length from by simp;omega]at this
   refine .inl (Ij o pF.rel B8 BZ ?_ ?_)
   ·intro v pc E' h' w' a' b1 bA b2 b3
    have QZ:=dc.cx _ Qy NI
    have zn:(order++(i,hd)::rest)[order.length]?=some (i,hd):=by rw[List.getElem?_append_right (zU _)];simp
    have HV:Bq ops i=false:=by unfold Bq;rw[j_];exact ni
    have hph:∀l,ww ops (CC (jB .any ops) hl) (order++(i,hd)::rest) order.length l=ww ops (CC (jB .any ops) hl) order order.length l:=by
     intro l;unfold ww;rw[List.take_append,List.take_of_length_le (zU _)];simp
    have aaO:HI ops hl (CC (jB .any ops) hl) (order++(i,hd)::rest) Hd E h w0 order.length eS w1:=fun l hc hp=>uY l hc (by rw[<-hph];exact hp)
    have vP:=CY NI zn j_
    have Lh:=pF.trans dc.rel b1 (fun id _ hm=>.inl (dc.wf i id hm))
    have Lx:=HI.GF QZ aaO pF zn HV b1
    have hHW:∀l,CC (jB .any ops) hl i l=true->kY (Hd l) E h w0 w':=by
     intro l hc
     have pI:=QZ.hc i l hc
     exact Lx.held pI (by rw[vA zn,vP.2 ni l pI hc,hc,Bool.or_true];rfl)
    refine⟨fun o' eu=>by cases eu;unfold RR;rw[zW (by simp[ni])];exact⟨hHW,fun hh=>bA (hh.imp (fun h=>h) fun hp id hw=>QZ.pw i id hp hw)⟩,?_⟩
    have:=Cm QZ (AP (pu:=pu) dc.heap (fun dst v c a w hh=>dc.put dst v c a w hh) dc.Xw Qy Xv U7 (by simp;omega)) none rest (order.length+1) _ a' E' h' w' (zU _) Dc nj rfl Lh Lx b2 b3 (fun s2 a2 E2 h2 w2 c1 cI c2 c3=>by
     have WR:order.length+1+rest.length=(order++(i,hd)::rest).length:=by simp;omega
     rw[WR]at cI ⊢
     cases ws with
     |nil=>
      have hz:ops.size-(order++(i,hd)::rest).length=0:=by simp at aaD ⊢;omega
      simp only[hz,mW]
      refine⟨?_,dc.last s2 a2 E2 h2 w2 c1 c2 c3⟩
      rw[Jj,zi];rfl
     |cons wy2 ws2=>
      exact Hr dc (wy2::ws2) (order++(i,hd)::rest) (by rw[Jj];exact hwo) Qy (fun x hx h2=>zp x (by unfold Way.Eu;exact List.mem_append_right _ hx) h2) aaI (by rw[Jj];exact zi) (by simp) s2 a2 E2 h2 w2 c1 cI c2 c3)
    have h0:=FW 0
    simp only[Nat.add_zero,List.take_zero]at h0
    rw[h0]at this
    exact this
   ·intro v E' h' w' u b1 b2 b3
    exact(dc.cx _ Qy NI).bW v E' h' w' u a1 s1.ds (pF.trans dc.rel b1 (fun id _ hm=>.inl (dc.wf i id hm))) b2 (B8.ds.mono b1.env) b3
termination_by wy=>SizeOf.sizeOf wy
theorem Dn(dc:ED P N W QP ops Q hl pu Wf Hd K E h w0):∀(ws:List Way)(order:List (Nat×Bool)),qW P pu ops (jB .any ops) hl ws order (cu ops.size order order.length)=true ->
  (∀(k:Nat)(x:Nat×Bool),order[k]?=some x->x.2=true->hl.contains x.1=true)->(∀x∈pC ws,x.2=true->hl.contains x.1=true)->i_ .any ops (cu ops.size order order.length) ->
  (∀i∈kO ws,i∈Region.ready .any ops (cu ops.size order order.length)) ->
  ∀(s1:St)(a1:Act)(E1:Env)(h1:AH)(w1:World),Step E h W w0 E1 h1 w1->HI ops hl (CC (jB .any ops) hl) order Hd E h w0 order.length h1 w1->AR E1 N s1 a1->oO P N Wf Hd QP ops ws K s1 h1 ->
  ∀i∈kO ws,order.length<ops.size/\wpOp P ops Q i (fun a' w'=>(∀o,ops[i]?=some o->RR (CC (jB .any ops) hl) (fun l=>kY (Hd l) E h w0) (fun i=>pu.contains i) i o w1 w') /\
   mW P .any ops Q (CC (jB .any ops) hl) (fun l=>kY (Hd l) E h w0) (fun i=>pu.contains i) (ops.size-(order.length+1)) ((cu ops.size order order.length).setIfInBounds i true) a' w') a1 w1
 |[],_,_,_,_,_,_,_,_,_,_,_,_,_,_,_,i,hi=>by simp[kO]at hi
 |wy::r,order,ed,xS,zp,xU,Qr,s1,a1,E1,eS,w1,pF,uY,B8,BZ,i,hi=>by
  unfold qW at ed
  rw[yC]at ed
  unfold oO at BZ
  have dx:wy.path≠[]:=by
   intro h0
   cases wy with
   |mk p ws=>simp only[Way.path]at h0;subst h0;simp[yF]at ed
  obtain⟨j,hj⟩:∃j,wy.path.head?.map (·.1)=some j:=by
   cases hp:wy.path with
   |nil=>exact absurd hp dx
   |cons x l=>exact⟨x.1,rfl⟩
  simp only[kO,List.map_cons,List.mem_cons]at hi
  rcases hi with hi |hi
  ·rw[hj]at hi
   simp only[Option.getD_some]at hi
   subst hi
   obtain⟨i',h1,h2⟩:=Ti dc wy order ed.1 xS (fun x hx=>zp x (by unfold pC;exact List.mem_append_left _ hx)) xU (fun q hq=>Qr q (by rw[hj]at hq;simp only[Option.mem_def,zQ]at hq;subst hq;simp[kO,hj])) s1 a1 E1 eS w1 pF uY B8 BZ.1
   rw[hj]at h1;cases h1
   exact h2
  ·exact Dn dc r order ed.2 xS (fun x hx=>zp x (by unfold pC;exact List.mem_append_right _ hx)) xU (fun q hq=>Qr q (by simp only[kO,List.map_cons,List.mem_cons];exact .inr hq)) s1 a1 E1 eS w1 pF uY B8 BZ.2 i hi
termination_by ws=>SizeOf.sizeOf ws
theorem Hr(dc:ED P N W QP ops Q hl pu Wf Hd K E h w0):∀(ws:List Way)(order:List (Nat×Bool)),qW P pu ops (jB .any ops) hl ws order (cu ops.size order order.length)=true ->
  (∀(k:Nat)(x:Nat×Bool),order[k]?=some x->x.2=true->hl.contains x.1=true)->(∀x∈pC ws,x.2=true->hl.contains x.1=true)->i_ .any ops (cu ops.size order order.length) ->
  Region.ready .any ops (cu ops.size order order.length)=kO ws->ws≠[] ->
  ∀(s1:St)(a1:Act)(E1:Env)(h1:AH)(w1:World),Step E h W w0 E1 h1 w1->HI ops hl (CC (jB .any ops) hl) order Hd E h w0 order.length h1 w1->AR E1 N s1 a1->oO P N Wf Hd QP ops ws K s1 h1 ->
  mW P .any ops Q (CC (jB .any ops) hl) (fun l=>kY (Hd l) E h w0) (fun i=>pu.contains i) (ops.size-order.length) (cu ops.size order order.length) a1 w1
 |ws,order,ed,xS,zp,xU,uS,dx,s1,a1,E1,eS,w1,pF,uY,B8,BZ=>by
  have each:=Dn dc ws order ed xS zp xU (fun i hi=>by rw[uS];exact hi) s1 a1 E1 eS w1 pF uY B8 BZ
  have U0:kO ws≠[]:=fun h0=>dx (List.map_eq_nil_iff.1 h0)
  have aL:order.length<ops.size:=by
   cases hh:kO ws with
   |nil=>exact absurd hh U0
   |cons j l=>exact(each j (by rw[hh];simp)).1
  have hn:ops.size-order.length=(ops.size-(order.length+1))+1:=by omega
  simp only[hn]
  refine⟨fun h0=>absurd (by rw[<-uS];exact h0) U0,fun i hi=>?_⟩
  rw[uS]at hi
  exact(each i hi).2
termination_by ws=>SizeOf.sizeOf ws+1
end
end
theorem IU{C:Nat->Nat->Bool}:vB ops [] C (jU ops.size)=true:=by
 unfold vB
 rw[List.all_eq_true]
 intro k hk
 have pH:k<ops.size:=by simpa[jU] using hk
 have:(jU ops.size)[k]?=some (k,false):=by simp[jU,pH]
 rw[this]
 simp
theorem JD(hm:P.follows .mixedOrders=true){pl:dj}{id:Nat}{draw:Bool}(iw:Ay P pl id ops draw=true){K:St->AH->Prop}{Q:cH}{s:St}{a:Act}{E:Env}{h:AH}{w:World}(Yh:∀s h,K s h->Q .normal s h)
  (hr:Rel E h w) (ha:AR E N s a) (hp:lI P N W QP pl id ops K s h):(Code.region id ops draw).wp P (CQ E h W w N Q QP) a w:=by
 have plain:∀(Wf:Nat->Nat->Prop)(Hd:Nat->Nat->Prop),draw=false->(∀i id,Wf i id->W id)->∀gs,gs.all (oK ops)=true->gs.flatMap (·.2)=jU ops.size->lR P N Wf Hd QP ops gs K s h->(Code.region id ops draw).wp P (CQ E h W w N Q QP) a w:=by
  intro Wf Hd hdr Ld gs hg jf nk
  subst hdr
  have cx:IJ P N ops [] (fun _ _=>false) (fun _=>false) (jU ops.size) W Wf Hd QP (CQ E h W w N Q QP) E h w:=⟨hr,fun _ _ h=>by simp at h,fun _ _ _ h=>by simp at h,Ld,fun _ _ h=>by simp at h,fun _ _ h=>by simp at h,fun k x hk hx=>by
   have pH:k<ops.size:=by have:=(zM.1 hk).1;simpa[jU] using this
   simp[jU,pH]at hk
   subst hk
   simp at hx,IU,fun v E' h' w' u a ds h1 h2 h3 h4=>.inr ⟨v,u,E',h',ds,rfl,h1,h2,h3,h4⟩⟩
  have:=Cn cx (LX (jU ops.size)) (fun s' a' E' h' w' h1 _ h2 h3=>by
   simp only[List.drop_length,List.map_nil,wpOps]
   exact .inl ⟨.normal,E',h',s',trivial,h1,h2,Yh _ _ h3⟩) _ 0 s a E h w (zU _) (fun m=>by rw[jf];simp) (by rw[jf];simp) hg (Step.refl hr) HI.start ha nk
  refine wp_region ?_
  simpa[jU,Function.comp_def] using this
 unfold lI at hp
 unfold Ay at iw
 split at hp
 ·rename_i h0
  rw[h0]at iw
  simp only[yC,Bool.not_eq_true']at iw
  exact plain (fun _=>W) mg iw.1 (fun _ _ h=>h) [(none,jU ops.size)] (by simpa using iw.2) (by simp) (by simpa[lR] using hp)
 rename_i p h0
 rw[h0]at iw
 simp only at iw
 have main:∀(Wf:Nat->Nat->Prop)(Hd:Nat->Nat->Prop),(∀i id,(jK p).contains i=true->Hd i id->h.obj id≠none)->(∀j i id,CC (jB .any ops) (jK p) j i=true->Hd i id->¬Wf j id)->(∀i id,Wf i id->W id)->(∀j id,p.pure.contains j=true->¬Wf j id)->tZ P N Wf Hd QP ops p K s h->(Code.region id ops draw).wp P (CQ E h W w N Q QP) a w:=by
  intro Wf Hd hHd hW Ld hpw he
  obtain⟨hg,UK,WU⟩:=Hl iw
  cases draw with
  |false=>
   obtain⟨jf,je⟩:=UK rfl
   exact plain Wf Hd rfl Ld p.ij hg jf (by unfold tZ at he;rw[je]at he;exact he)
  |true=>
   obtain⟨⟨ed,hpo⟩,xO,uS,hlen,halt⟩:=WU rfl
   have xS:∀(k:Nat)(x:Nat×Bool),(p.ij.flatMap (·.2))[k]?=some x->x.2=true->(jK p).contains x.1=true:=fun k x hk hx=>B3 (.inl (zP hk)) hx
   have hhI:∀x∈pC p.alts,x.2=true->(jK p).contains x.1=true:=fun x hx h2=>B3 (.inr hx) h2
   have rP:∀j i,CC (jB .any ops) (jK p) j i=true->(jK p).contains i=true:=fun j i hc=>by unfold CC at hc;simp only[yC]at hc;exact hc.1
   generalize jK p=hl at *
   generalize jf:p.ij.flatMap (·.2)=order at *
   have HT:Rel E h { w with drawn:=w.drawn+1 }:=hr.of_heap rfl
   have ig:Step E h W w E h { w with drawn:=w.drawn+1 }:=Step.drew hr rfl rfl rfl rfl
   have dc:ED P N W QP ops (CQ E h W w N Q QP) hl p.pure Wf Hd K E h { w with drawn:=w.drawn+1 }:={
    rel:=HT
    wf:=Ld
    Xw:=xO
    put:=by
     intro dst v c a' w' hh
     rcases hh with⟨x,E',h',s',a1,_⟩ |⟨v',u,E',h',ds,a1,a2,a3,a4,a5⟩
     ·cases x<;>exact a1.elim
     ·refine .inr ⟨v',u,E',h',ds,a1,a2,a3,?_,a5⟩
      cases dst<;>exact a4
    heap:=by
     intro l w1 w2 h1 h2 id B a1 a2 a3
     rw[h2];exact h1 id B a1 a2 a3
    cx:=fun ord hho vP=>⟨HT,hHd,hW,Ld,hpw,rP,hho,vP,fun v E' h' w' u a ds h1 h2 h3 h4=>.inr ⟨v,u,E',h',ds,rfl,ig.trans hr h1 (fun _ _ hm=>.inl hm),h2,h3,h4⟩⟩
    last:=fun s' a' E' h' w' h1 h2 h3=>.inl ⟨.normal,E',h',s',trivial,ig.trans hr h1 (fun _ _ hm=>.inl hm),h2,Yh _ _ h3⟩ }
   have cx:=dc.cx order xS hpo
   have Tp:∀k x,0<=k->order[k]?=some x->oh P p.pure ops (jB .any ops) (cu ops.size order k) x=true:=fun k x _ hk=>vm order _ ed k x hk
   have atEnd:cu ops.size order order.length=iI order (Array.replicate ops.size false):=by simp[cu]
   refine wp_region_any hm (A_ (C:=CC (jB .any ops) hl) (S:=fun l=>kY (Hd l) E h { w with drawn:=w.drawn+1 }) (pu:=fun i=>p.pure.contains i) _ _ _ _ ?_)
   have start:mW P .any ops (CQ E h W w N Q QP) (CC (jB .any ops) hl) (fun l=>kY (Hd l) E h { w with drawn:=w.drawn+1 }) (fun i=>p.pure.contains i) (ops.size-0) (cu ops.size order 0) a { w with drawn:=w.drawn+1 }:=by
    by_cases dx:p.alts=[]
    ·have nk:lR P N Wf Hd QP ops p.ij K s h:=by unfold tZ at he;rw[dx]at he;exact he
     have hl:=hlen dx
     refine Cn cx (AP (pu:=p.pure) dc.heap (fun dst v c a w hh=>dc.put dst v c a w hh) xO xS Tp (uz order) (by omega)) (fun s' a' E' h' w' h1 _ h2 h3=>?_) _ 0 s a E h _ (zU _) (fun m=>by rw[jf];simp) (by rw[jf];simp) hg (Step.refl HT) HI.start ha nk
     have h0:ops.size-order.length=0:=by omega
     simp only[h0,mW]
     exact⟨by rw[atEnd,uS,dx];rfl,dc.last s' a' E' h' w' h1 h2 h3⟩
    ·have H9:=halt dx
     have nk:lR P N Wf Hd QP ops p.ij (oO P N Wf Hd QP ops p.alts K) s h:=by
      unfold tZ at he
      split at he
      ·rename_i h0;exact absurd h0 dx
      ·exact he
     have hle:order.length<=ops.size:=by
      cases UL:p.alts with
      |nil=>exact absurd UL dx
      |cons wy ws=>
       rw[UL]at H9
       unfold qW at H9
       rw[yC]at H9
       have h2:=H9.1
       cases wy with
       |mk path nx=>
        unfold yF at h2
        simp only[yC,Nat.ble_eq]at h2
        omega
     refine Cn cx (AP (pu:=p.pure) dc.heap (fun dst v c a w hh=>dc.put dst v c a w hh) xO xS Tp (uz order) hle) (fun s1 a1 E1 eS w1 pF uY B8 pG=>?_) _ 0 s a E h _ (zU _) (fun m=>by rw[jf];simp) (by rw[jf];simp) hg (Step.refl HT) HI.start ha nk
     have xU:i_ .any ops (cu ops.size order order.length):=by
      have:=oG (P:=P) (pu:=p.pure) (ops:=ops) (B:=jB .any ops) (order:=order) (k1:=0) Tp (uz order) order.length
      simpa using this
     exact Hr dc p.alts order (by rw[atEnd];exact H9) xS hhI xU (by rw[atEnd];exact uS) dx s1 a1 E1 eS w1 pF uY B8 pG
   simpa[cu,iI] using start
 have XA:∀(Wg:Nat->Nat->Prop)(j id:Nat),p.pure.contains j=true->¬DB p.pure Wg j id:=by
  intro Wg j id hj
  unfold DB
  rw[hj]
  exact fun h=>h
 have TE:∀(Wg:Nat->Nat->Prop)(j id:Nat),DB p.pure Wg j id->Wg j id:=by
  intro Wg j id hj
  unfold DB at hj
  cases hc:p.pure.contains j with
  |true=>rw[hc]at hj;exact hj.elim
  |false=>rw[hc]at hj;exact hj
 cases Ya:p.held
 ·rw[Ya]at hp
  exact main _ mg (fun _ _ _ h=>h.elim) (fun _ _ _ _ h=>h.elim) (fun j id h=>TE _ j id h) (fun j id h=>XA _ j id h) hp
 ·rw[Ya]at hp
  obtain⟨Hd,h1,h2⟩:=hp
  refine main _ _ (fun i id hc he=>?_) (fun j i id hc he hm=>?_) ?_ (fun j id h=>XA _ j id h) h2
  ·subst he;exact h1 i (by simpa using hc)
  ·have hm:=TE _ j id hm
   unfold CC at hc
   simp only[yC]at hc
   exact(It hm).2 i (List.mem_filter.2 ⟨by simpa using hc.1,hc.2⟩) he
  ·intro i id hm
   exact(It (TE _ i id hm)).1
end
section
variable {P:Program} {N:Nat} {W:Nat->Prop}
theorem CQ.mono{E0:Env}{h0:AH}{w0:World}{Q Q':cH}{QP gN:cb}(hq:∀x s h,Q x s h->Q' x s h)(f_:∀ds v h,QP ds v h->gN ds v h){e:Exit}{a:Act}{w:World}
  (h:CQ E0 h0 W w0 N Q QP e a w):CQ E0 h0 W w0 N Q' gN e a w:=by
 rcases h with⟨x,E,h,s,a1,a2,a3,a4⟩ |⟨v,u,E,h,ds,a1,a2,a3,a4,a5⟩
 ·exact .inl ⟨x,E,h,s,a1,a2,a3,hq _ _ _ a4⟩
 ·exact .inr ⟨v,u,E,h,ds,a1,a2,a3,a4,f_ _ _ _ a5⟩
theorem qI(hm:P.follows .mixedOrders=true){pl:dj}:∀(c:Code)(Q:cH)(QP:cb)(s:St)(h:AH),ls P pl c=true->aw P N W pl c Q QP s h->∀(E:Env)(w:World)(a:Act),Rel E h w->AR E N s a->c.wp P (CQ E h W w N Q QP) a w
 |.skip,Q,QP,s,h,ed,hp,E,w,a,hr,ha=>wp_skip (.inl ⟨.normal,E,h,s,trivial,Step.refl hr,ha,hp⟩)
 |.label _,Q,QP,s,h,ed,hp,E,w,a,hr,ha=>wp_label (.inl ⟨.normal,E,h,s,trivial,Step.refl hr,ha,hp⟩)
 |.exit id,Q,QP,s,h,ed,hp,E,w,a,hr,ha=>wp_exit (.inl ⟨.exit id,E,h,s,rfl,Step.refl hr,ha,hp⟩)
 |.goto l,Q,QP,s,h,ed,hp,E,w,a,hr,ha=>wp_goto (.inl ⟨.goto l,E,h,s,rfl,Step.refl hr,ha,hp⟩)
 |.ret,Q,QP,s,h,ed,hp,E,w,a,hr,ha=>wp_ret (.inl ⟨.ret,E,h,s,trivial,Step.refl hr,ha,hp⟩)
 |.region id ops draw,Q,QP,s,h,ed,hp,E,w,a,hr,ha=>JD hm ed (fun _ _ h=>h) hr ha hp
 |.rangeFunc ..,_,_,_,_,ed,hp,_,_,_,_,_=>hp.elim
 |.refuse _,_,_,_,_,ed,hp,_,_,_,_,_=>hp.elim
 |.cond c x y,Q,QP,s,h,ed,hp,E,w,a,hr,ha=>by
  simp only[ls,yC]at ed
  simp only[aw,aF]at hp
  have hc:=ha.eval c
  split at hp
  ·rename_i t ht
   rw[ht]at hc
   generalize hv:a.eval c=v at hc
   cases hc
   cases t
   ·exact wp_cond_false hv (qI hm y Q QP s h ed.2 (hp.2 rfl) E w a hr ha)
   ·exact wp_cond_true hv (qI hm x Q QP s h ed.1 (hp.1 rfl) E w a hr ha)
  ·exact hp.elim
 |.seq x y,Q,QP,s,h,ed,hp,E,w,a,hr,ha=>by
  simp only[ls,yC]at ed
  simp only[aw]at hp
  refine wp_seq (wp_mono (qI hm x _ QP s h ed.1 hp E w a hr ha) ?_)
  intro e a' w' hq
  rcases hq with⟨x',E',h',s',a1,a2,a3,a4⟩ |⟨v,u,E',h',ds,rfl,a2,a3,a4,a5⟩
  ·cases x'<;>cases e<;>first |exact a1.elim |skip
   ·exact wp_mono (qI hm y Q QP s' h' ed.2 a4 E' w' a' a2.rel a3) fun e a w h=>h.trans hr a2
   ·exact .inl ⟨_,E',h',s',a1,a2,a3,a4⟩
   ·exact .inl ⟨_,E',h',s',a1,a2,a3,a4⟩
   ·exact .inl ⟨_,E',h',s',a1,a2,a3,a4⟩
  ·exact .inr ⟨v,u,E',h',ds,rfl,a2,a3,a4,a5⟩
 |.block id c,Q,QP,s,h,ed,hp,E,w,a,hr,ha=>by
  simp only[aw]at hp
  refine wp_block (wp_mono (qI hm c _ QP s h ed hp E w a hr ha) ?_)
  intro e a' w' hq
  rcases hq with⟨x',E',h',s',a1,a2,a3,a4⟩ |⟨v,u,E',h',ds,rfl,a2,a3,a4,a5⟩
  ·cases x'<;>cases e<;>first |exact a1.elim |skip
   ·exact .inl ⟨.normal,E',h',s',trivial,a2,a3,a4⟩
   ·cases a1
    simp only[df]at a4
    simp only[Exit.inBlock]
    split
    ·rename_i he;rw[zX he]at a4;exact .inl ⟨.normal,E',h',s',trivial,a2,a3,a4⟩
    ·rename_i he;rw[zW he]at a4;exact .inl ⟨.exit _,E',h',s',rfl,a2,a3,a4⟩
   ·exact .inl ⟨_,E',h',s',a1,a2,a3,a4⟩
   ·exact .inl ⟨_,E',h',s',a1,a2,a3,a4⟩
  ·exact .inr ⟨v,u,E',h',ds,rfl,a2,a3,a4,a5⟩
 |.scope c,Q,QP,s,h,ed,hp,E,w,a,hr,ha=>by
  simp only[aw]at hp
  refine wp_scope_straight (wp_mono (qI hm c _ QP s h ed hp E w a hr ha) ?_)
  intro e a' w' hq
  rcases hq with⟨x',E',h',s',a1,a2,a3,a4⟩ |⟨v,u,E',h',ds,rfl,a2,a3,a4,a5⟩
  ·cases x'<;>cases e<;>first |exact a1.elim |skip
   ·exact .inl ⟨.normal,E',h',s',trivial,a2,a3,a4⟩
   ·exact .inl ⟨_,E',h',s',a1,a2,a3,a4⟩
   ·exact a4.elim
   ·exact .inl ⟨_,E',h',s',a1,a2,a3,a4⟩
  ·exact .inr ⟨v,u,E',h',ds,rfl,a2,a3,a4,a5⟩
 |.loop c,Q,QP,s,h,ed,hp,E,w,a,hr,ha=>by
  obtain⟨n,hp⟩:=hp
  refine wp_loop_rounds n ?_
  have key:∀(n:Nat)(s':St)(h':AH)(E':Env)(w':World)(a':Act),qL (aw P N W pl c) n Q QP s' h'->Step E h W w E' h' w'->AR E' N s' a'->Code.rounds P c (CQ E h W w N Q QP) n a' w':=by
   intro n
   induction n with
   |zero=>intro s' h' E' w' a' hp _ _;exact hp.elim
   |succ n ih=>
    intro s' h' E' w' a' hp hs ha
    rw[rounds_succ]
    refine wp_mono (qI hm c _ QP s' h' ed hp E' w' a' hs.rel ha) ?_
    intro e a'' EV hq
    rcases hq with⟨x',E2,h2,s2,a1,a2,a3,a4⟩ |⟨v,u,E2,h2,ds,rfl,a2,a3,a4,a5⟩
    ·have Q9:=hs.trans hr a2 (fun _ _ hm=>.inl hm)
     cases x'<;>cases e<;>first |exact a1.elim |skip
     ·exact ih s2 h2 E2 EV a'' a4 Q9 a3
     ·exact .inl ⟨_,E2,h2,s2,a1,Q9,a3,a4⟩
     ·exact .inl ⟨_,E2,h2,s2,a1,Q9,a3,a4⟩
     ·exact .inl ⟨_,E2,h2,s2,a1,Q9,a3,a4⟩
    ·exact .inr ⟨v,u,E2,h2,ds,rfl,hs.trans hr a2 (fun _ _ hm=>.inl hm),a3,a4,a5⟩
  exact key n s h E w a hp (Step.refl hr) ha
def mA(P:Program):List ResultVar->St->AH->(List AV->Prop)->Prop
 |[],_,_,K=>K []
 |.tmp t::r,s,h,K=>mA P r s h fun l=>K (s.tm t::l)
 |.cell a t::r,s,h,K=>ao (mS P t) (gG P t) (s.tm a) h fun v _=>mA P r s h fun l=>K (v::l)
def jQ:List AV->AV
 |[v]=>v
 |l=>.dD l
def bQ(P:Program)(rs:List ResultVar)(R:AE->AH->Prop):cH
 |.normal,s,h=>s.ds=[]/\mA P rs s h fun vs=>R (.ret (jQ vs)) h
 |.ret,s,h=>s.ds=[]/\mA P rs s h fun vs=>R (.ret (jQ vs)) h
 |_,_,_=>False
def aW(R:AE->AH->Prop):cb:=fun ds v h=>ds=[]/\R (.bW v) h
def xl(tmps:Array Value):ResultVar->Sem Value
 |.tmp t=>pure (tmps.getD t undef)
 |.cell a t=>do loadVar t (<-asAddr (tmps.getD a undef))
theorem Di{E:Env}{s:St}{a:Act}{h:AH}{w:World}(hr:Rel E h w)(ha:AR E N s a):∀(rs:List ResultVar)(K:List AV->Prop),mA P rs s h K ->
  ∃vs us,dg E vs us/\K vs/\(rs.mapM (xl a.tmps)).run P w=.ok us w
 |[],K,hp=>⟨[],[],.nil,hp,by simp⟩
 |.tmp t::rs,K,hp=>by
  obtain⟨vs,us,h1,h2,h3⟩:=Di hr ha rs _ hp
  exact⟨s.tm t::vs,a.tmps.getD t undef::us,.cons (ha.tm t) h1,h2,by simp[xl,h3]⟩
 |.cell a' t::rs,K,hp=>by
  simp only[mA]at hp
  obtain⟨v,u,id,B,h1,h2,h3,h4⟩:=K3 (P:=P) hr (ha.tm a') hp
  obtain⟨vs,us,h5,h6,h7⟩:=Di hr ha rs _ h2
  refine⟨v::vs,u::us,.cons h1 h5,h6,?_⟩
  have h8:=h4 w rfl
  have h9:(xl a.tmps (.cell a' t)).run P w=.ok u w:=by
   show(do loadVar t (<-asAddr (a.tmps.getD a' undef)):Sem Value).run P w=.ok u w
   have hx:=ha.tm a'
   unfold Instr.loadAt at h8
   simp only[Sem.run_bind]at h8 ⊢
   have ZL:∃i o,s.tm a'=.ptr i o:=by
    unfold ao at hp
    split at hp
    ·rename_i he;exact⟨_,_,he⟩
    ·rename_i he;exact⟨_,_,he⟩
    ·exact hp.elim
   obtain⟨i,o,he⟩:=ZL
   rw[he]at hx
   generalize a.tmps.getD a' undef=q at hx h8
   cases hx
   simpa[asAddr,Instr.sureAddr] using h8
  rw[List.mapM_cons,Sem.run_bind,h9]
  simp[h7]
theorem Bo {E : Env} {s : St} {a : Act} {h : AH} {w : World} (hr : Rel E h w) (ha : AR E N s a) (fn : Func) (K : AV → Prop) (hp : mA P fn.results.toList s h fun vs => K (jQ vs)) :
    ∃ v u, VR E v u ∧ K v ∧ (results fn a.tmps).run P w = .ok u w := by
  obtain ⟨vs, us, h1, h2, h3⟩ := Di hr ha _ _ hp
  refine ⟨jQ vs, if h : us.toArray.size = 1 then us.toArray[0] else .tuple us.toArray, ?_, h2, ?_⟩
  · cases h1 with
    | nil => simpa [jQ] using VR.dD dg.nil
    | cons a1 a2 =>
      cases a2 with
      | nil => simpa [jQ] using a1
      | cons b1 b2 => simpa [jQ] using VR.dD (.cons a1 (.cons b1 b2))
  · have he : results fn a.tmps = (do
        let vs ← fn.results.mapM (xl a.tmps)
        pure (if h : vs.size = 1 then vs[0] else .tuple vs)) := by
      unfold results xl; rfl
    rw [he, Sem.run_bind, Array.mapM_eq_mapM_toList, Sem.run_map, h3]
    simp
def s0(args:List AV):St:={ tm:=fun i=>args.getD i ab,ds:=[] }
theorem IS{E:Env}{args:List AV}{fW:List Value}(ha:dg E args fW){n:Nat}(hn:args.length<=n) :
  AR E n (s0 args) { tmps:=fW.toArray++Array.replicate (n-fW.toArray.size) undef,defers:=[] }:=by
 have hl:=ha.length
 refine⟨by simp;omega,fun i=>?_,.nil⟩
 simp only[s0]
 rw[List.getD_eq_getElem?_getD,Array.getD_eq_getD_getElem?]
 by_cases hi:i<args.length
 ·obtain⟨u,hu,hv⟩:=ha.get (i:=i) (a:=args[i]) (zJ hi)
  rw[zJ hi,Array.getElem?_append_left (by simp;omega)]
  simp[hu,hv]
 ·rw[List.getElem?_eq_none (by omega),Array.getElem?_append_right (by simp;omega)]
  have:((Array.replicate (n-fW.toArray.size) undef)[i-fW.toArray.size]?).getD undef=undef:=by
   rw[Array.getElem?_replicate];split<;>rfl
  rw[this]
  exact .sc _
theorem yw{f:FuncId}{fn:Func}{c:Code}{args:List AV}{h:AH}{M:Nat->Prop}{R:AE->AH->Prop}(hm:P.follows .mixedOrders=true)(hf:P.funcs[f]?=some fn)(hb:fn.body=some c)(hn:args.length<=fn.ntmps){pl:dj}(ed:ls P pl c=true)
  (hp:aw P fn.ntmps (fun id=>M id\/h.next<=id) pl c (bQ P fn.results.toList R) (aW R) (s0 args) h):aA P f args h M R:=by
 intro E w fW hr ha
 refine calls_of_wp hf hb (wp_mono (qI hm c _ _ _ h ed hp E w _ hr (IS ha hn)) ?_)
 have back:∀E' h' w',Step E h (fun id=>M id\/h.next<=id) w E' h' w'->Step E h M w E' h' w':=fun E' h' w' hs=>(Step.refl hr).trans hr hs (fun id aL hm=>by
  rcases hm with hm |hm
  ·exact .inl hm
  ·exact .inr hm)
 intro e a' w' hq
 rcases hq with⟨x,E',h',s',a1,a2,a3,a4⟩ |⟨v,u,E',h',ds,rfl,a2,a3,a4,a5⟩
 ·have fin:s'.ds=[]->(mA P fn.results.toList s' h' fun vs=>R (.ret (jQ vs)) h')->a'.defers=[]/\∃v,(results fn a'.tmps).run P w'=.ok v w'/\∃YW wR ae,Step E h M w YW wR w'/\ER YW ae (.returned v)/\R ae wR:=by
   intro pZ jv
   obtain⟨v,u,b1,b2,b3⟩:=Bo a2.rel a3 fn (fun v=>R (.ret v) h') jv
   refine⟨?_,u,b3,E',h',.ret v,back _ _ _ a2,b1,b2⟩
   have:=a3.ds
   rw[pZ]at this
   generalize a'.defers=l at this
   cases this;rfl
  cases x<;>cases e<;>first |exact a1.elim |exact a4.elim |exact fin a4.1 a4.2
 ·refine⟨?_,E',h',.bW v,back _ _ _ a2,⟨u,rfl,a3⟩,a5.2⟩
  have:=a4
  rw[a5.1]at this
  generalize a'.defers=l at this
  cases this;rfl
end
section
variable {P:Program} {N:Nat} {W:Nat->Prop} {pl:dj}
theorem JC{Hd:Nat->Prop}{QP gN:cb}(hq:∀ds v h,QP ds v h->gN ds v h){held:Bool}{o:Oper}{K K':St->AH->Prop}(hk:∀s h,K s h->K' s h){s:St}{h:AH}(hp:so P N W Hd QP held o K s h) :
  so P N W Hd gN held o K' s h:=by
 unfold so at *
 split at hp
 ·refine qOp_mono (fun v d _ hh=>?_) hp
  unfold ed at *
  split at hh
  ·exact hk _ _ hh
  ·exact⟨hh.1,hk _ _ hh.2⟩
 ·exact Ox (fun v d h'=>hk _ _) (fun v h'=>hq _ _ _) hp
theorem qv{Wf:Nat->Nat->Prop}{Hd:Nat->Nat->Prop}{QP gN:cb}(hq:∀ds v h,QP ds v h->gN ds v h){ops:Array Oper}:∀(is:List (Nat×Bool)){K K':St->AH->Prop},(∀s h,K s h->K' s h)->∀{s:St}{h:AH},nS P N Wf Hd QP ops is K s h->nS P N Wf Hd gN ops is K' s h
 |[],_,_,hk,_,_,hp=>hk _ _ hp
 |x::is,K,K',hk,s,h,hp=>by
  simp only[nS]at hp ⊢
  split at hp
  ·exact JC hq (fun s h=>qv hq is hk) hp
  ·exact hp.elim
theorem G1{x:AV}{a b a' b':Prop}(ha:a->a')(hb:b->b')(hp:aF x a b):aF x a' b':=by
 unfold aF at *
 split at hp
 ·exact⟨fun h=>ha (hp.1 h),fun h=>hb (hp.2 h)⟩
 ·exact hp.elim
theorem G0{want:Bool}{x:AV}{a b a' b':Prop}(ha:a->a')(hb:b->b')(hp:bw want x a b):bw want x a' b':=by
 unfold bw at *
 split at hp
 ·exact⟨fun h=>ha (hp.1 h),fun h=>hb (hp.2 h)⟩
 ·exact hb hp
 ·exact hp.elim
theorem sX{Wf:Nat->Nat->Prop}{Hd:Nat->Nat->Prop}{QP gN:cb}(hq:∀ds v h,QP ds v h->gN ds v h){ops:Array Oper}:∀(gs:List (Option (Nat×Bool)×List (Nat×Bool))){K K':St->AH->Prop},(∀s h,K s h->K' s h)->∀{s:St}{h:AH},lR P N Wf Hd QP ops gs K s h->lR P N Wf Hd gN ops gs K' s h
 |[],_,_,hk,_,_,hp=>hk _ _ hp
 |(none,is)::gs,K,K',hk,s,h,hp=>by
  simp only[lR]at hp ⊢
  exact qv hq is (fun s h=>sX hq gs hk) hp
 |(some (j,want),is)::gs,K,K',hk,s,h,hp=>by
  simp only[lR]at hp ⊢
  split at hp
  ·exact G0 (qv hq is (fun s h=>sX hq gs hk)) (sX hq gs hk) hp
  ·exact hp.elim
mutual
theorem Ot{Wf:Nat->Nat->Prop}{Hd:Nat->Nat->Prop}{QP gN:cb}(hq:∀ds v h,QP ds v h->gN ds v h){ops:Array Oper}{K K':St->AH->Prop}(hk:∀s h,K s h->K' s h):∀(w:Way){s:St}{h:AH},yf P N Wf Hd QP ops w K s h->yf P N Wf Hd gN ops w K' s h
 |.mk path [],s,h,hp=>by
  unfold yf at hp ⊢
  exact qv hq path hk hp
 |.mk path (w::ws),s,h,hp=>by
  unfold yf at hp ⊢
  exact qv hq path (fun s h=>ye hq hk (w::ws)) hp
termination_by w=>SizeOf.sizeOf w
theorem ye{Wf:Nat->Nat->Prop}{Hd:Nat->Nat->Prop}{QP gN:cb}(hq:∀ds v h,QP ds v h->gN ds v h){ops:Array Oper}{K K':St->AH->Prop}(hk:∀s h,K s h->K' s h):∀(ws:List Way){s:St}{h:AH},oO P N Wf Hd QP ops ws K s h->oO P N Wf Hd gN ops ws K' s h
 |[],s,h,hp=>by unfold oO;trivial
 |w::r,s,h,hp=>by
  unfold oO at hp ⊢
  exact⟨Ot hq hk w hp.1,ye hq hk r hp.2⟩
termination_by ws=>SizeOf.sizeOf ws
end
theorem GA{Wf:Nat->Nat->Prop}{Hd:Nat->Nat->Prop}{QP gN:cb}(hq:∀ds v h,QP ds v h->gN ds v h){ops:Array Oper}{K K':St->AH->Prop}(hk:∀s h,K s h->K' s h){s:St}{h:AH}{p:uC}(hp:tZ P N Wf Hd QP ops p K s h):tZ P N Wf Hd gN ops p K' s h:=by
 unfold tZ at *
 split at hp
 ·exact sX hq _ hk hp
 ·exact sX hq _ (fun s h=>ye hq hk _) hp
theorem GZ{QP gN:cb}(hq:∀ds v h,QP ds v h->gN ds v h){ops:Array Oper}{id:Nat}{K K':St->AH->Prop}(hk:∀s h,K s h->K' s h){s:St}{h:AH}(hp:lI P N W QP pl id ops K s h) :
  lI P N W gN pl id ops K' s h:=by
 unfold lI at *
 split at hp
 ·exact qv hq _ hk hp
 ·split at hp
  ·exact GA hq hk hp
  ·obtain⟨Hd,h1,h2⟩:=hp;exact⟨Hd,h1,GA hq hk h2⟩
theorem vl{K K':St->AH->Prop}{Q Q':cH}(hk:∀s h,K s h->K' s h)(hq:∀x s h,Q x s h->Q' x s h):∀x s h,bJ K Q x s h->bJ K' Q' x s h:=by
 intro x s h hp
 cases x
 ·exact hk _ _ hp
 ·exact hq (.exit _) _ _ hp
 ·exact hq (.goto _) _ _ hp
 ·exact hq .ret _ _ hp
theorem nG:∀(c:Code){Q Q':cH}{QP gN:cb},(∀x s h,Q x s h->Q' x s h)->(∀ds v h,QP ds v h->gN ds v h)->∀{s:St}{h:AH},aw P N W pl c Q QP s h->aw P N W pl c Q' gN s h
 |.skip,_,_,_,_,hq,_,_,_,hp=>hq _ _ _ hp
 |.label _,_,_,_,_,hq,_,_,_,hp=>hq _ _ _ hp
 |.exit _,_,_,_,_,hq,_,_,_,hp=>hq _ _ _ hp
 |.goto _,_,_,_,_,hq,_,_,_,hp=>hq _ _ _ hp
 |.ret,_,_,_,_,hq,_,_,_,hp=>hq _ _ _ hp
 |.rangeFunc ..,_,_,_,_,_,_,_,_,hp=>hp.elim
 |.refuse _,_,_,_,_,_,_,_,_,hp=>hp.elim
 |.region _ ops _,_,_,_,_,hq,f_,_,_,hp=>GZ f_ (hq .normal) hp
 |.seq a b,_,_,_,_,hq,f_,_,_,hp=>nG a (vl (fun _ _=>nG b hq f_) hq) f_ hp
 |.cond c a b,_,_,_,_,hq,f_,_,_,hp=>G1 (nG a hq f_) (nG b hq f_) hp
 |.block id c,Q,Q',_,_,hq,f_,_,_,hp=>by
  refine nG c (Q:=df id Q) ?_ f_ hp
  intro x s h hp
  cases x with
  |exit j=>
   simp only[df]at hp ⊢
   split at hp
   ·rename_i he;rw[zX he];exact hq _ _ _ hp
   ·rename_i he;rw[zW he];exact hq _ _ _ hp
  |normal=>exact hq .normal _ _ hp
  |goto l=>exact hq (.goto l) _ _ hp
  |ret=>exact hq .ret _ _ hp
 |.scope c,Q,Q',_,_,hq,f_,_,_,hp=>by
  refine nG c (Q:=qo Q) ?_ f_ hp
  intro x s h hp
  cases x with
  |exit j=>exact hq (.exit j) _ _ hp
  |normal=>exact hq .normal _ _ hp
  |goto l=>exact hp.elim
  |ret=>exact hq .ret _ _ hp
 |.loop c,Q,Q',QP,gN,hq,f_,s,h,hp=>by
  obtain⟨n,hp⟩:=hp
  refine⟨n,?_⟩
  have key:∀(n:Nat)(s:St)(h:AH),qL (aw P N W pl c) n Q QP s h->qL (aw P N W pl c) n Q' gN s h:=by
   intro n
   induction n with
   |zero=>intro s h hp;exact hp.elim
   |succ n ih=>intro s h hp;exact nG c (vl ih hq) f_ hp
  exact key n s h hp
theorem gY{ι:Type}{c:Code}{Q:cH}{QP:cb}(I:ι->St->AH->Prop)(μ:ι->Nat)(i:ι){s:St}{h:AH}(h0:I i s h)
  (step:∀i s h,I i s h->aw P N W pl c (bJ (fun s' h'=>∃i',μ i'<μ i/\I i' s' h') Q) QP s h):hJ (aw P N W pl c) Q QP s h:=by
 refine⟨μ i+1,?_⟩
 have key:∀(n:Nat)(i:ι)(s:St)(h:AH),μ i<n->I i s h->qL (aw P N W pl c) n Q QP s h:=by
  intro n
  induction n with
  |zero=>intro i s h aL _;omega
  |succ n ih=>
   intro i s h aL hi
   refine nG c (vl (fun s' h'=>?_) (fun _ _ _ h=>h)) (fun _ _ _ h=>h) (step i s h hi)
   rintro⟨i',h1,h2⟩
   exact ih i' s' h' (by omega) h2
 exact key _ i s h (by omega) h0
def Code.at:Code->List Nat->Code
 |c,[]=>c
 |.seq a _,0::p=>Code.at a p
 |.seq _ b,_::p=>Code.at b p
 |.cond _ a _,0::p=>Code.at a p
 |.cond _ _ b,_::p=>Code.at b p
 |.block _ c,_::p=>Code.at c p
 |.loop c,_::p=>Code.at c p
 |.scope c,_::p=>Code.at c p
 |c,_=>c
abbrev aP(cells:List AV)(sz:Nat)(ty:TypeId):AO:={ cells:=cells,sz:=sz,ty:=ty }
theorem AH.da(h:AH)(o:AO)(i:Nat):(h.alloc o).obj i=if i=h.next then some o else h.obj i:=rfl
theorem AH.cm(h:AH)(o:AO):(h.alloc o).next=h.next+1:=rfl
theorem AH.vz(h:AH)(id off:Nat)(cs:List AV):(h.put id off cs).next=h.next:=rfl
theorem AH.l5(h:AH)(id:Nat):(h.del id).next=h.next:=rfl
theorem AH.Sm(h:AH)(id i:Nat):(h.del id).obj i=if i=id then none else h.obj i:=rfl
theorem AH.qE(h:AH)(id:Nat)(k:Kind)(i:Nat):(h.jT id k).obj i=if i=id then(h.obj i).map (fun o=>{ o with kind:=k }) else h.obj i:=rfl
theorem AH.b_(h:AH)(o:AO):(h.alloc o).obj h.next=some o:=by simp[AH.da]
theorem AH.dM{h:AH}{o:AO}{i:Nat}(hi:i<h.next):(h.alloc o).obj i=h.obj i:=by rw[AH.da,zW (by omega)]
theorem AH.lr{h:AH}{id off:Nat}{cs:List AV}{i:Nat}(hi:i≠id):(h.put id off cs).obj i=h.obj i:=by rw[AH.cg,zW hi]
theorem AH.Kk{h:AH}{id off:Nat}{cs:List AV}{o:AO}(ho:h.obj id=some o):(h.put id off cs).obj id=some { o with cells:=bt o.cells off cs }:=by rw[AH.cg,zX rfl,ho];rfl
theorem AH.Dg{h:AH}{id i:Nat}(hi:i≠id):(h.del id).obj i=h.obj i:=by rw[AH.Sm,zW hi]
theorem EX(tm:Nat->AV)(d:Nat)(v:AV):fF tm d v d=v:=by simp[fF]
theorem jF{tm:Nat->AV}{d:Nat}{v:AV}{i:Nat}(h:i≠d):fF tm d v i=tm i:=by simp[fF,h]
end
section
variable {P:Program}
def ag(tm:Nat->AV):List (Nat×AV)->Nat->AV
 |[]=>tm
 |x::r=>ag (fF tm x.1 x.2) r
def xm:Code->Array Oper
 |.region _ ops _=>ops
 |_=>#[]
section
variable {N:Nat} {W:Nat->Prop} {pl:dj} {Q:cH} {QP:cb} {s:St} {h:AH}
theorem L_{id:Nat}{ops:Array Oper}{draw:Bool}{gs:List (Option (Nat×Bool)×List (Nat×Bool))}(hp:sH pl id=some ⟨gs,false,[],[]⟩) :
  aw P N W pl (.region id ops draw) Q QP s h=lR P N (fun _=>W) mg QP ops gs (Q .normal) s h:=by
 simp only[aw,lI,hp,tZ];rfl
theorem GR{id:Nat}{ops:Array Oper}{draw:Bool}{gs:List (Option (Nat×Bool)×List (Nat×Bool))}{pu:List Nat}(hp:sH pl id=some ⟨gs,false,[],pu⟩) :
  aw P N W pl (.region id ops draw) Q QP s h=lR P N (DB pu fun _=>W) mg QP ops gs (Q .normal) s h:=by
 simp only[aw,lI,hp,tZ]
variable {ops:Array Oper} {K:St->AH->Prop} {is:List (Nat×Bool)} {gs:List (Option (Nat×Bool)×List (Nat×Bool))}
end
def Qa(o:Option AO)(off:Nat)(K:AV->Prop):Prop:=
 match o with
 |some o=>(match o.kind with |.row=>True |_=>False)/\(match o.cells[off]? with |some c=>K c |none=>False)
 |none=>False
theorem au{n:Option Nat}{id off:Nat}{h:AH}{K:AV->Nat->Prop}:ao (some false) n (.ptr id off) h K=Qa (h.obj id) off (fun v=>K v id):=by
 simp only[ao,Qa]
 apply propext
 constructor
 ·rintro⟨o,c,⟨h1,h2,h3⟩,h4⟩
  rw[h1];simp only[h2,h3];exact⟨trivial,h4⟩
 ·intro hh
  cases ho:h.obj id with
  |none=>rw[ho]at hh;exact hh.elim
  |some o=>
   rw[ho]at hh
   obtain⟨h1,h2⟩:=hh
   cases hk:o.kind with
   |row=>
    cases hc:o.cells[off]? with
    |none=>rw[hc]at h2;exact h2.elim
    |some c=>rw[hc]at h2;exact⟨o,c,⟨rfl,hk,hc⟩,h2⟩
   |iter s p=>rw[hk]at h1;exact h1.elim
   |map l=>rw[hk]at h1;exact h1.elim
   |Jo b ob=>rw[hk]at h1;exact h1.elim
def yZ(c:Option AV)(K:AV->Prop):Prop:=match c with |some c=>K c |none=>False
theorem aa{c:AV}{K:AV->Prop}:yZ (some c) K=K c:=rfl
theorem Jv{K:AV->Prop}:yZ none K=False:=rfl
theorem ap{cells:List AV}{sz:Nat}{ty:TypeId}{ro:Bool}{off:Nat}{K:AV->Prop}:Qa (some { cells:=cells,sz:=sz,ty:=ty,ro:=ro,kind:=.row }) off K=yZ cells[off]? K:=by
 unfold Qa yZ;simp
def I2(o:Option AO)(off n:Nat)(K:AV->Prop):Prop:=
 match o with
 |some o=>(match o.kind with |.row=>True |_=>False)/\off+n<=o.cells.length/\K (.agg ((o.cells.drop off).take n))
 |none=>False
theorem kU{n:Nat}{id off:Nat}{h:AH}{K:AV->Nat->Prop}:ao (some true) (some n) (.ptr id off) h K=I2 (h.obj id) off n (fun v=>K v id):=by
 simp only[ao,I2]
 apply propext
 constructor
 ·rintro⟨o,⟨h1,h2,h3⟩,h4⟩
  rw[h1];simp only[h2];exact⟨trivial,h3,h4⟩
 ·intro hh
  cases ho:h.obj id with
  |none=>rw[ho]at hh;exact hh.elim
  |some o=>
   rw[ho]at hh
   obtain⟨h1,h2,h3⟩:=hh
   cases hk:o.kind with
   |row=>exact⟨o,⟨rfl,hk,h2⟩,h3⟩
   |iter s p=>rw[hk]at h1;exact h1.elim
   |map l=>rw[hk]at h1;exact h1.elim
   |Jo b ob=>rw[hk]at h1;exact h1.elim
theorem jX{cells:List AV}{sz:Nat}{ty:TypeId}{ro:Bool}{off n:Nat}{K:AV->Prop}:I2 (some { cells:=cells,sz:=sz,ty:=ty,ro:=ro,kind:=.row }) off n K=(off+n<=cells.length/\K (.agg ((cells.drop off).take n))):=by
 unfold I2;simp
theorem aC{i o:Nat}{K:AV->Prop}:aH (.ptr i o) K=K (.ptr i o):=rfl
theorem aj{d i o:Nat}{K:AV->Prop}:ah (some d) (.ptr i o) K=K (.ptr i (o+d)):=rfl
theorem bK{t:Bool}{a b:AV}{K:AV->Prop}:aO (.sc (.bool t)) a b K=K (if t then a else b):=rfl
theorem kN{sz id off len:Nat}{k:IntKind}{n:Int}{K:AV->Prop}:bB (some (sz,none)) (.sl id off len) (.sc (.int k n)) K=((0<=n/\n<(len:Int))/\K (.ptr id (off+n.toNat*sz))):=rfl
theorem RM{sz len id off:Nat}{k:IntKind}{n:Int}{K:AV->Prop}:bB (some (sz,some len)) (.ptr id off) (.sc (.int k n)) K=((0<=n/\n<(len:Int))/\K (.ptr id (off+n.toNat*sz))):=rfl
theorem dE{l:List AV}{k:Nat}{K:AV->Prop}:cW (.dD l) k K=yZ l[k]? K:=by
 simp only[cW,yZ]
 apply propext
 constructor
 ·rintro⟨c,h1,h2⟩;rw[h1];exact h2
 ·intro hh;cases hc:l[k]? with
  |none=>rw[hc]at hh;exact hh.elim
  |some c=>rw[hc]at hh;exact⟨c,rfl,hh⟩
theorem dA{t:Bool}{K:AV->Prop}:iH .not (.sc (.bool t)) K=K (.sc (.bool !t)):=rfl
theorem RA{k:IntKind}{n:Int}{K:AV->Prop}:iH .neg (.sc (.int k n)) K=K (.sc (.int k (k.wrap (0-n)))):=rfl
theorem HJ{id off len:Nat}{K:AV->Prop}:bL (.sl id off len) K=K (.sc (.int .i64 len)):=rfl
theorem Fi{a:Option Addr}{n c:Nat}{K:AV->Prop}:bL (.sc (.slice a n c)) K=K (.sc (.int .i64 n)):=rfl
theorem Ks{s:ByteArray}{K:AV->Prop}:bL (.sc (.string s)) K=K (.sc (.int .i64 s.size)):=rfl
theorem EZ{s:ByteArray}:aY (.sc (.string s))=true:=rfl
theorem Du{id off len:Nat}:aY (.sl id off len)=false:=rfl
theorem Bf{a:Option Addr}{n c:Nat}:aY (.sc (.slice a n c))=false:=rfl
theorem TU{t:TypeId}{x:AV}{K:AV->Prop}:sI (some false) t x K=K (.lz t x):=rfl
theorem T0{k k':IntKind}{n:Int}{K:AV->Prop}:ql (some k) (.sc (.int k' n)) K=K (.sc (.int k (k.wrap n))):=rfl
theorem RD{T t:TypeId}{ok:Bool}{v:AV}{K:AV->Prop}:DD (some false) T ok (.lz t v) K=(t=T/\K (if ok then .dD [v,.sc (.bool true)] else v)):=rfl
theorem al{t:Bool}{a b:Prop}:aF (.sc (.bool t)) a b=((t=true->a)/\(t=false->b)):=rfl
theorem cA{want t:Bool}{a b:Prop}:bw want (.sc (.bool t)) a b=((t=want->a)/\(t=(!want)->b)):=rfl
theorem Xa{want:Bool}{a b:Prop}:bw want ab a b=b:=rfl
theorem TY{s:ByteArray}{k:IntKind}{n:Int}{K:AV->Prop}:m8 true (.sc (.string s)) (.sc (.int k n)) K=∃c:UInt8,(0<=n/\s[n.toNat]?=some c)/\K (.sc (.int .u8 c.toNat)):=rfl
section
variable {t:TypeId} {oF:Bool} {k:IntKind} {a b:Int} {x y:ByteArray} {K:AV->Prop}
theorem aZ:ai P .add t oF (.sc (.int k a)) (.sc (.int k b)) K=K (.sc (.int k (k.wrap (a+b)))):=by simp[ai]
theorem lW:ai P .sub t oF (.sc (.int k a)) (.sc (.int k b)) K=K (.sc (.int k (k.wrap (a-b)))):=by simp[ai]
theorem Av:ai P .mul t oF (.sc (.int k a)) (.sc (.int k b)) K=K (.sc (.int k (k.wrap (a*b)))):=by simp[ai]
theorem eG:ai P .eql t oF (.sc (.int k a)) (.sc (.int k b)) K=K (.sc (.bool (a==b))):=by simp[ai]
theorem cq:ai P .neq t oF (.sc (.int k a)) (.sc (.int k b)) K=K (.sc (.bool (a != b))):=by simp[ai]
theorem bc:ai P .lss t oF (.sc (.int k a)) (.sc (.int k b)) K=K (.sc (.bool (decide (a<b)))):=by simp[ai]
theorem Ng:ai P .leq t oF (.sc (.int k a)) (.sc (.int k b)) K=K (.sc (.bool (decide (a<=b)))):=by simp[ai]
theorem ft:ai P .gtr t oF (.sc (.int k a)) (.sc (.int k b)) K=K (.sc (.bool (decide (a > b)))):=by simp[ai]
theorem iU:ai P .geq t oF (.sc (.int k a)) (.sc (.int k b)) K=K (.sc (.bool (decide (a>=b)))):=by simp[ai]
theorem br:ai P .eql t oF (.sc (.string x)) (.sc (.string y)) K=K (.sc (.bool (decide (x=y)))):=rfl
theorem KB:ai P .neq t oF (.sc (.string x)) (.sc (.string y)) K=K (.sc (.bool (!decide (x=y)))):=rfl
theorem KC:ai P .add t oF (.sc (.string x)) (.sc (.string y)) K=(x.size+y.size<9223372036854775808/\K (.sc (.string (x++y)))):=rfl
end
theorem ep{α:Type}{f:α->List AV}{k:Nat}(hf:∀x,(f x).length=k):∀(l:List α)(i j:Nat),j<k->(l.flatMap f)[i*k+j]?=(l[i]?).bind fun x=>(f x)[j]?
 |[],i,j,_=>by simp
 |x::l,0,j,hj=>by simp[List.getElem?_append_left,hf,hj]
 |x::l,i+1,j,hj=>by
  rw[List.flatMap_cons,List.getElem?_append_right (by rw[hf,Nat.add_mul];omega),hf]
  have:(i+1)*k+j-k=i*k+j:=by rw[Nat.add_mul];omega
  rw[this,ep hf l i j hj];simp
theorem eT{α:Type}{f:α->List AV}{k:Nat}(hf:∀x,(f x).length=k)(hk:0<k)(l:List α)(i:Nat):(l.flatMap f)[i*k]?=(l[i]?).bind fun x=>(f x)[0]?:=ep hf l i 0 hk
theorem lZ{α:Type}{f:α->List AV}{k:Nat}(hf:∀x,(f x).length=k):∀(l:List α),(l.flatMap f).length=l.length*k
 |[]=>by simp
 |x::l=>by rw[List.flatMap_cons,List.length_append,hf,lZ hf l,List.length_cons,Nat.add_mul];omega
theorem rj{α:Type}{f:α->List AV}{k:Nat}(hf:∀x,(f x).length=k):∀(l:List α)(i:Nat)(x:α),l[i]?=some x->((l.flatMap f).drop (i*k)).take k=f x
 |[],i,x,h=>by simp at h
 |y::l,0,x,h=>by
  simp only[zA,zQ]at h;subst h
  simp only[Nat.zero_mul,List.drop_zero,List.flatMap_cons]
  rw[List.take_append,hf,Nat.sub_self,List.take_zero,List.append_nil,List.take_of_length_le (by rw[hf];exact zU _)]
 |y::l,i+1,x,h=>by
  simp only[zB]at h
  rw[List.flatMap_cons,List.drop_append,hf]
  have h1:(i+1)*k-k=i*k:=by rw[Nat.add_mul];omega
  rw[h1,List.drop_eq_nil_of_le (by rw[hf,Nat.add_mul];omega),List.nil_append]
  exact rj hf l i x h
theorem aR{n:Int}(h0:-9223372036854775808<=n)(h1:n<=9223372036854775807):IntKind.i64.wrap n=n:=IntWalk.i64_in _ (by omega)
end
section
variable {P:Program}
abbrev KT:=St->AH->Prop
abbrev Dk:=List (Option (Nat×Bool)×List (Nat×Bool))
section
variable {N:Nat} {W:Nat->Prop} {pl:dj} {Q:cH} {QP:cb} {s:St} {h:AH} {c a b:Code} {T:Prop}
theorem jn(e:c=.seq a b){C:KT}(hb:∀s h,aw P N W pl b Q QP s h=C s h)(ha:aw P N W pl a (bJ C Q) QP s h=T):aw P N W pl c Q QP s h=T:=by
 subst e
 have:aw P N W pl b Q QP=C:=funext fun s=>funext fun h=>hb s h
 subst this;exact ha
theorem su{o:Operand}{A B:Prop}(e:c=.cond o a b)(hA:aw P N W pl a Q QP s h=A)(hB:aw P N W pl b Q QP s h=B)(ht:aF (lU s o) A B=T):aw P N W pl c Q QP s h=T:=by
 subst e hA hB;exact ht
theorem Fu{id:Nat}(e:c=.block id a)(ha:aw P N W pl a (df id Q) QP s h=T):aw P N W pl c Q QP s h=T:=by subst e;exact ha
theorem RZ(e:c=.loop a):aw P N W pl c Q QP s h=hJ (aw P N W pl a) Q QP s h:=by subst e;rfl
variable {ops:Array Oper} {K:KT} {is:List (Nat×Bool)} {gs rest:Dk}
variable {Wf:Nat->Nat->Prop}
end
end
section
attribute [simp] ag fF s0 aC aj bK kN RM dE dA RA HJ Fi Ks EZ Du Bf TU T0 RD al cA Xa TY aZ lW Av eG cq bc Ng ft iU br KB KC au ap kU jX aa Jv bQ aW mA jQ bJ df qo
end
section
abbrev aQ:AV:=.sc (.slice none 0 0)
def cl{α:Type}(f:α->List AV)(sz:Nat)(ty:TypeId)(h:AH)(x:AV)(l:List α):Prop:=
 (x=aQ/\l=[])\/∃id,x=.sl id 0 l.length/\h.obj id=some (aP (l.flatMap f) sz ty)
def dC(S:Nat->Prop)(x:AV):Prop:=∀id off n,x=.sl id off n->S id
theorem cl.nil{α:Type}{f:α->List AV}{sz:Nat}{ty:TypeId}{h:AH}:cl f sz ty h aQ []:=.inl ⟨rfl,rfl⟩
theorem cl.frame{α:Type}{f:α->List AV}{sz:Nat}{ty:TypeId}{h h':AH}{x:AV}{l:List α}(hl:cl f sz ty h x l)(hf:∀id off n,x=.sl id off n->h'.obj id=h.obj id):cl f sz ty h' x l:=by
 rcases hl with hl |⟨id,hx,ho⟩
 ·exact .inl hl
 ·exact .inr ⟨id,hx,by rw[hf id _ _ hx];exact ho⟩
theorem cl.len{α:Type}{f:α->List AV}{sz:Nat}{ty:TypeId}{h:AH}{x:AV}{l:List α}(hl:cl f sz ty h x l){K:AV->Prop}:(aY x=false)/\bL x K=K (.sc (.int .i64 l.length)):=by
 rcases hl with⟨rfl,rfl⟩ |⟨id,rfl,ho⟩
 ·exact⟨rfl,rfl⟩
 ·exact⟨rfl,rfl⟩
theorem nu{z cs:List AV}(hz:cs.length=z.length):bt z 0 cs=cs:=by
 have key:∀(cs z p:List AV),cs.length=z.length->bt (p++z) p.length cs=p++cs:=by
  intro cs
  induction cs with
  |nil=>intro z p h;have:z=[]:=List.length_eq_zero_iff.1 (by simpa using h.symm);subst this;rfl
  |cons c cs ih=>
   intro z p h
   cases z with
   |nil=>simp at h
   |cons a z=>
    simp only[bt]
    have:=ih z (p++[c]) (by simpa using h)
    simp only[List.append_assoc,List.singleton_append,List.length_append,List.length_singleton]at this
    rw[show(p++a::z).set p.length c=p++c::z from by simp]
    exact this
 simpa using key cs z [] hz
theorem OT{α:Type}{f:α->List AV}{sz bytes:Nat}{ty:TypeId}{z:List Value}(hf:∀x,(f x).length=sz)(j9:0<sz)(hz:z.length=sz)(h1:∀x,(f x).all cR=true)(hb:bytes<=1024)
  {h:AH} {x:AV} {l:List α} {t:α} {W:Nat->Prop} {K:AV->AH->Prop} (hl:cl f sz ty h x l) (hw:dC W x) (hn:l.length<=100000000)
  (hK:∀y h',cl f sz ty h' y (l++[t])->dC (h.next<=·) y->(∀i,i<h.next->(∀off n,x≠.sl i off n)->h'.obj i=h.obj i)->h.next<=h'.next->K y h') :
  dG (some (sz,ty,z)) 1 [(0,.agg (f t))] h (fun v h4=>fE (some (sz,bytes,ty)) x v h4 W K):=by
 have jh:dU (fun i=>some (i*sz,sz)) (z.map .sc) [(0,.agg (f t))]=some (f t):=by
  simp only[dU,cJ,Nat.zero_mul,hf,zZ,hz,zG,zU,and_self,zV]
  rw[nu (by simp[hf,hz])]
 refine⟨f t,⟨jh,h1 t⟩,?_⟩
 have D0:(l.length+1)*bytes<=140737488355328:=by
  have:(l.length+1)*bytes<=100000001*1024:=Nat.mul_le_mul (by omega) hb
  omega
 have kH:((f t).drop 0).take (1*sz)=f t:=by rw[List.drop_zero,List.take_of_length_le (by rw[hf];omega)]
 rcases hl with⟨rfl,rfl⟩ |⟨id,rfl,ho⟩
 ·refine⟨1,f t,.inr ⟨rfl,_,AH.b_ _ _,rfl,by simp[hf],kH.symm⟩,?_⟩
  show if 1=0 then _ else _
  rw[zW (by omega)]
  refine⟨⟨by omega,by simpa using D0⟩,?_⟩
  refine hK _ _ (.inr ⟨_,rfl,?_⟩) ?_ ?_ ?_
  ·rw[AH.b_];simp[aP]
  ·intro i off n he;cases he;simp only[AH.cm];omega
  ·intro i hi _;rw[AH.dM (by simp only[AH.cm];omega),AH.dM hi]
  ·simp only[AH.cm];omega
 ·have hid:=h.lt _ _ ho
  refine⟨1,f t,.inr ⟨rfl,_,AH.b_ _ _,rfl,by simp[hf],kH.symm⟩,?_⟩
  show if 1=0 then _ else _
  rw[zW (by omega)]
  have hlen:(l.flatMap f).length=l.length*sz:=lZ hf l
  refine⟨rfl,_,⟨hw _ _ _ rfl,by rw[AH.dM hid];exact ho,rfl,rfl,rfl,rfl,by simp[aP,hlen],by omega,D0⟩,?_⟩
  refine hK _ _ (.inr ⟨_,by rw[List.length_append,List.length_singleton],?_⟩) ?_ ?_ ?_
  ·rw[AH.da,zX (by simp[AH.cm,AH.l5])]
   simp only[aP,List.flatMap_append,List.flatMap_cons,List.flatMap_nil,List.append_nil]
   rw[List.take_of_length_le (by rw[hlen];exact zU _)]
  ·intro i off n he;cases he;simp only[AH.cm];omega
  ·intro i hi dx
   have:i≠id:=fun e=>dx 0 l.length (by rw[e])
   rw[AH.dM (by simp only[AH.cm,AH.l5];omega),AH.Dg this,AH.dM hi]
  ·simp only[AH.cm,AH.l5];omega
end
section
theorem dz{h:AH}{id off:Nat}{cs cells:List AV}{sz:Nat}{ty:TypeId}(ho:h.obj id=some { cells:=cells,sz:=sz,ty:=ty }):(h.put id off cs).obj id=some { cells:=bt cells off cs,sz:=sz,ty:=ty }:=by rw[AH.Kk ho]
structure Fr (h h':AH) (S:Nat->Prop):Prop where
 next:h.next<=h'.next
 dH:∀id,id<h.next->¬S id->h'.obj id=h.obj id
theorem Fr.refl{h:AH}{S:Nat->Prop}:Fr h h S:=⟨zU _,fun _ _ _=>rfl⟩
theorem Fr.trans{h h1 h2:AH}{S:Nat->Prop}(a:Fr h h1 S)(b:Fr h1 h2 fun id=>S id\/h.next<=id):Fr h h2 S:=
 ⟨zR a.next b.next,fun id h1 h2=>by rw[b.dH id (Nat.lt_of_lt_of_le h1 a.next) (fun hh=>hh.elim h2 (fun hh=>by omega)),a.dH id h1 h2]⟩
theorem Fr.mono{h h1:AH}{S S':Nat->Prop}(a:Fr h h1 S)(b:∀id,S id->S' id):Fr h h1 S':=⟨a.next,fun id h1 h2=>a.dH id h1 fun h=>h2 (b id h)⟩
theorem Fr.alloc{h h1:AH}{S:Nat->Prop}(a:Fr h h1 S)(o:AO):Fr h (h1.alloc o) S:=⟨Nat.le_succ_of_le a.next,fun id hi hs=>by rw[AH.dM (Nat.lt_of_lt_of_le hi a.next)];exact a.dH id hi hs⟩
theorem Fr.put{h h1:AH}{S:Nat->Prop}(a:Fr h h1 S){id off:Nat}{cs:List AV}(hs:S id\/h.next<=id):Fr h (h1.put id off cs) S:=
 ⟨a.next,fun i hi hn=>by rw[AH.lr (fun e=>by subst e;exact hs.elim hn (fun h=>by omega))];exact a.dH i hi hn⟩
theorem Fr.obj{h h1:AH}{S:Nat->Prop}(a:Fr h h1 S){id:Nat}{o:AO}(ho:h.obj id=some o)(hs:¬S id):h1.obj id=some o:=by rw[a.dH id (h.lt _ _ ho) hs,ho]
theorem aV{z:List Value}{sz:Nat}{t:TypeId}{h:AH}{K:AV->AH->Prop}:bx (some z) sz t h K=((z.all (·.oneCell')=true)/\K (.ptr h.next 0) (h.alloc (aP (z.map .sc) sz t))):=rfl
theorem OW{t:TypeId}{v:AV}{h:AH}{KP:AV->AH->Prop}:uB (.lz t v) h KP=KP (.lz t v) h:=rfl
def PR(o:Option AO)(c:Option (List AV))(n off:Nat)(w:Prop)(K:List AV->Prop):Prop:=
 match o,c with
 |some o,some cs=>((match o.kind with |.row=>True |_=>False)/\o.ro=false/\w/\cs.all cR=true/\cs.length=n/\off+n<=o.cells.length)/\K cs
 |_,_=>False
theorem aE{n id off:Nat}{x:AV}{h:AH}{W:Nat->Prop}{K:AH->Prop}:aD (some n) (.ptr id off) x h W K=PR (h.obj id) (cJ x) n off (W id) (fun cs=>K (h.put id off cs)):=by
 apply propext
 simp only[aD,PR]
 constructor
 ·rintro⟨o,Cu,⟨h1,h2,h3,h4,h5,h6,h7,h8⟩,h9⟩
  rw[h2,h5];simp only[h3]
  exact⟨⟨trivial,h4,h1,h6,h7,h8⟩,h9⟩
 ·intro hh
  cases ho:h.obj id with
  |none=>rw[ho]at hh;exact hh.elim
  |some o=>
   cases hc:cJ x with
   |none=>rw[ho,hc]at hh;exact hh.elim
   |some cs=>
    rw[ho,hc]at hh
    obtain⟨⟨h3,h4,h1,h6,h7,h8⟩,h9⟩:=hh
    refine⟨o,cs,⟨h1,rfl,?_,h4,rfl,h6,h7,h8⟩,h9⟩
    cases hk:o.kind with
    |row=>rfl
    |iter s p=>rw[hk]at h3;exact h3.elim
    |map l=>rw[hk]at h3;exact h3.elim
    |Jo b ob=>rw[hk]at h3;exact h3.elim
theorem bz{cells cs:List AV}{sz n off:Nat}{ty:TypeId}{w:Prop}{K:List AV->Prop}:PR (some { cells:=cells,sz:=sz,ty:=ty }) (some cs) n off w K=((w/\cs.all cR=true/\cs.length=n/\off+n<=cells.length)/\K cs):=by simp[PR]
theorem eL{l:List AV}:cJ (.agg l)=some l:=rfl
theorem dt{k:IntKind}{n:Int}:cJ (.sc (.int k n))=some [.sc (.int k n)]:=rfl
theorem kQ{s:ByteArray}:cJ (.sc (.string s))=some [.sc (.string s)]:=rfl
theorem ns{b:Bool}:cJ (.sc (.bool b))=some [.sc (.bool b)]:=rfl
theorem Iu{a:Option Addr}{n c:Nat}:cJ (.sc (.slice a n c))=some [.sc (.slice a n c)]:=rfl
theorem VT{a:Option Addr}:cJ (.sc (.pointer a))=some [.sc (.pointer a)]:=rfl
theorem VV:cJ (.sc .nilIface)=some [.sc .nilIface]:=rfl
theorem Sp{i o:Nat}:cJ (.ptr i o)=some [.ptr i o]:=rfl
theorem yq{i o n:Nat}:cJ (.sl i o n)=some [.sl i o n]:=rfl
theorem Sq{t:TypeId}{v:AV}:cJ (.lz t v)=some [.lz t v]:=rfl
theorem VX{f:Fn}{a b:List AV}:cJ (.fn f a b)=some [.fn f a b]:=rfl
theorem js{h:AH}{id off:Nat}{cs cells:List AV}{sz:Nat}{ty:TypeId}(ho:h.obj id=some { cells:=cells,sz:=sz,ty:=ty }):(h.put id off cs).obj id=some { cells:=bt cells off cs,sz:=sz,ty:=ty }:=by rw[AH.Kk ho]
theorem nK{a b:Nat}(h:a<b):a≠b/\b≠a/\a≠b+1/\b+1≠a/\a≠b+2/\b+2≠a/\a≠b+3/\b+3≠a/\a≠b+4/\b+4≠a:=by omega
theorem xe{α:Type}(l:List α)(k:Nat):(l.map fun _=>k).sum=l.length*k:=by induction l with |nil=>simp |cons a l ih=>simp[ih,Nat.add_mul,Nat.add_comm]
attribute [simp] aV OW cN dU bt Value.oneCell' cR aE bz eL dt kQ ns Iu VT VV Sp yq Sq VX
end
section
variable {P:Program} {N:Nat} {W:Nat->Prop}
def Ih(P:Program)(N:Nat)(W:Nat->Prop)(ops:Array Oper):List Nat->(St->AH->Prop)->(St->AV->AH->Prop)->St->AH->Prop
 |[],K,_,s,h=>K s h
 |i::r,K,KP,s,h=>match ops[i]? with
  |some o=>match o.guard with
   |none=>match tJ o.op with
    |true=>qOp P o.op (lU s) h fun v _=>Ih P N W ops r K KP (s.put N o.dst v) h
    |false=>ve P W o.op (lU s) s.ds h (fun v pc h'=>Ih P N W ops r K KP (({ s with ds:=pc }:St).put N o.dst v) h') (KP s)
   |some _=>False
  |none=>False
theorem Gz{ops:Array Oper}{K:St->AH->Prop}{KP:St->AV->AH->Prop}{E0:Env}{h0:AH}{w0:World}{Qc:Exit->Act->World->Prop}(nh:Rel E0 h0 w0)
  (hK:∀s h E w a,K s h->Step E0 h0 W w0 E h w->AR E N s a->Qc .normal a w)
  (Lw:∀s v h E w a u,KP s v h->Step E0 h0 W w0 E h w->AR E N s a->VR E v u->Qc (.panic [{ v:=u,recovered:=false }]) a w) :
  ∀(l:List Nat)(s:St)(h:AH)(E:Env)(w:World)(a:Act),Ih P N W ops l K KP s h->Step E0 h0 W w0 E h w->AR E N s a->wpOps P ops Qc l a w
 |[],s,h,E,w,a,hp,hs,ha=>hK s h E w a hp hs ha
 |i::r,s,h,E,w,a,hp,hs,ha=>by
  simp only[Ih]at hp
  rw[wpOps_cons]
  split at hp
  ·rename_i o ho
   split at hp
   ·rename_i hg
    have hw:Region.wanted o (yielded ops a.tmps)=true:=by unfold Region.wanted;rw[hg]
    unfold Go.wpOp
    simp only[ho,hw,zV]
    refine .inl ?_
    split at hp
    ·obtain⟨av,u,d,h1,h2,h3,h4⟩:=Ki o hs.rel ha hp
     have:=h4 w (fun _ _ _ _=>rfl)
     unfold Oper.wp
     rw[this,Oper.upon_value]
     exact Gz nh hK Lw r _ h E w _ h2 hs (ha.put _ h1)
    ·refine GG o hs.rel ha hp ?_ ?_
     ·intro v pc E' h' w' a' h1 h2 h3
      exact Gz nh hK Lw r _ h' E' w' a' h3 (hs.trans nh h1 fun _ _ hm=>.inl hm) h2
     ·intro v E' h' w' u h1 h2 h3
      exact Lw s v h' E' w' a u h3 (hs.trans nh h1 fun _ _ hm=>.inl hm) (ha.mono h1.env) h2
   ·exact hp.elim
  ·exact hp.elim
def Rj(P:Program)(f:FuncId)(args:List AV)(h:AH)(M:Nat->Prop)(R:AH->Prop):Prop:=
 ∀E w fW,Rel E h w->dg E args fW->CallsD P f fW.toArray .returning w fun e u' w'=>(∃r,e=.returned r)/\u'=.returning/\∃E' h',Step E h M w E' h' w'/\R h'
def Rk(P:Program)(f:FuncId)(args:List AV)(av:AV)(h:AH)(M:Nat->Prop)(R:AH->Prop):Prop:=
 ∀E w fW u,Rel E h w->dg E args fW->VR E av u->CallsD P f fW.toArray (.panicking [{ v:=u,recovered:=false }]) w fun e u' w'=>(∃r,e=.returned r)/\u'=.panicking [{ v:=u,recovered:=true }]/\∃E' h',Step E h M w E' h' w'/\R h'
section
variable {fn:Func} {M:Nat->Prop} {R:AE->AH->Prop} {E0 E:Env} {h0 h:AH} {w0 w:World} {s:St} {a:Act} {g:FuncId} {cap args:List AV}
def qC(E0:Env)(h0:AH)(M:Nat->Prop)(w0:World)(R:AE->AH->Prop):Ending->World->Prop:=fun e w'=>∃E' h' ae,Step E0 h0 M w0 E' h' w'/\ER E' ae e/\R ae h'
theorem DO(ha:AR E N s a)(pZ:s.ds=[⟨.func g,cap,args⟩]):∃vs ws,dg E cap vs/\dg E args ws/\a.defers=[⟨.fn (.func g) vs.toArray,ws.toArray⟩]:=by
 have:=ha.ds
 rw[pZ]at this
 generalize a.defers=l at this
 cases this with
 |cons h1 h2=>
  cases h2
  obtain⟨vs,ws,e1,e2,e3,e4⟩:=h1
  rename_i v
  refine⟨vs,ws,e3,e4,?_⟩
  cases v
  simp only at e1 e2
  rw[e1,e2]
theorem xH(hs:Step E0 h0 M w0 E h w)(ha:AR E N s a)(jv:mA P fn.results.toList s h fun vs=>R (.ret (jQ vs)) h):Leaves P fn a.tmps (qC E0 h0 M w0 R) [] .returning w:=by
 obtain⟨v,u,b1,b2,b3⟩:=Bo hs.rel ha fn (fun v=>R (.ret v) h) jv
 exact⟨u,b3,E,h,.ret v,hs,b1,b2⟩
theorem KX(nh:Rel E0 h0 w0)(hs:Step E0 h0 M w0 E h w)(ha:AR E N s a)(pZ:s.ds=[⟨.func g,cap,args⟩])(he:yU P g=true){M':Nat->Prop}(hM:∀id,id<h.next->M' id->M id\/h0.next<=id)
  (hd:Rj P g (args++cap) h M' fun h'=>mA P fn.results.toList s h' fun vs=>R (.ret (jQ vs)) h'):Leaves P fn a.tmps (qC E0 h0 M w0 R) a.defers .returning w:=by
 obtain⟨vs,ws,e3,e4,e5⟩:=DO ha pZ
 rw[e5]
 refine leaves_cons (by simp) (f:=g) (args:=(ws++vs).toArray) ?_ ?_
 ·have:=td he (ws.toArray++vs.toArray) w
  simp only[invoke]
  rw[this];simp
 ·refine(hd E w _ hs.rel (e4.append e3)).mono ?_
  rintro e u' w' ⟨⟨r,rfl⟩,rfl,E',h',h1,h2⟩
  simp only[settle]
  exact xH (hs.trans nh h1 hM) (ha.mono h1.env) h2
theorem KY(nh:Rel E0 h0 w0)(hs:Step E0 h0 M w0 E h w)(ha:AR E N s a)(pZ:s.ds=[⟨.func g,cap,args⟩])(he:yU P g=true){av:AV}{u:Value}(hu:VR E av u){M':Nat->Prop}(hM:∀id,id<h.next->M' id->M id\/h0.next<=id)
  (hd:Rk P g (args++cap) av h M' fun h'=>mA P fn.results.toList s h' fun vs=>R (.ret (jQ vs)) h'):Leaves P fn a.tmps (qC E0 h0 M w0 R) a.defers (.panicking [{ v:=u,recovered:=false }]) w:=by
 obtain⟨vs,ws,e3,e4,e5⟩:=DO ha pZ
 rw[e5]
 refine leaves_cons (by simp) (f:=g) (args:=(ws++vs).toArray) ?_ ?_
 ·have:=td he (ws.toArray++vs.toArray) w
  simp only[invoke]
  rw[this];simp
 ·refine(hd E w _ u hs.rel (e4.append e3) hu).mono ?_
  rintro e u' w' ⟨⟨r,rfl⟩,rfl,E',h',h1,h2⟩
  simp only[settle,List.dropWhile_nil]
  exact xH (hs.trans nh h1 hM) (ha.mono h1.env) h2
end
def TC(P:Program)(N:Nat)(W:Nat->Prop)(E0:Env)(h0:AH)(w0:World)(c:Code)(Qc:Exit->Act->World->Prop)(s:St)(h:AH):Prop:=∀E w a,Step E0 h0 W w0 E h w->AR E N s a->c.wp P Qc a w
def Ep:cb:=fun _ _ _=>False
def J3(N:Nat)(W:Nat->Prop)(E0:Env)(h0:AH)(w0:World)(Qc:Exit->Act->World->Prop):cH:=fun x s h=>∀e E w a,XR x e->Step E0 h0 W w0 E h w->AR E N s a->Qc e a w
variable {E0:Env} {h0:AH} {w0:World} {Qc:Exit->Act->World->Prop} {s:St} {h:AH}
theorem Q_(hm:P.follows .mixedOrders=true)(nh:Rel E0 h0 w0){pl:dj}{c:Code}(ed:ls P pl c=true)(hp:aw P N W pl c (J3 N W E0 h0 w0 Qc) Ep s h):TC P N W E0 h0 w0 c Qc s h:=by
 intro E w a hs ha
 refine wp_mono (qI hm c _ _ s h ed hp E w a hs.rel ha) ?_
 rintro e a' w' (⟨x,E',h',s',a1,a2,a3,a4⟩ |⟨v,u,E',h',ds,a1,a2,a3,a4,a5⟩)
 ·exact a4 e E' w' a' a1 (hs.trans nh a2 fun _ _ hm=>.inl hm) a3
 ·exact a5.elim
theorem G6{x y:Code}(hx:TC P N W E0 h0 w0 x (fun e a w=>match e with |.normal=>y.wp P Qc a w |e=>Qc e a w) s h):TC P N W E0 h0 w0 (.seq x y) Qc s h:=by
 intro E w a hs ha
 refine wp_seq (wp_mono (hx E w a hs ha) ?_)
 intro e a' w' hq
 cases e<;>exact hq
theorem qB(hm:P.follows .mixedOrders=true)(nh:Rel E0 h0 w0){pl:dj}{c x y:Code}(hc:c=.seq x y)(ed:ls P pl x=true)(hp:aw P N W pl x (bJ (TC P N W E0 h0 w0 y Qc) (J3 N W E0 h0 w0 Qc)) Ep s h):TC P N W E0 h0 w0 c Qc s h:=by
 subst hc
 refine G6 (Q_ hm nh ed (nG x ?_ (fun _ _ _ h=>h) hp))
 intro e s' h' hq
 intro e' E w a hx hs ha
 cases e<;>cases e'<;>first |exact hx.elim |skip
 ·exact hq E w a hs ha
 ·exact hq _ E w a hx hs ha
 ·exact hq _ E w a hx hs ha
 ·exact hq _ E w a hx hs ha
theorem Mg(nh:Rel E0 h0 w0){id:Nat}{c:Code}{ops:Array Oper}(hc:c=.region id ops false){K:St->AH->Prop}{KP:St->AV->AH->Prop}
  (hK:∀s h E w a,K s h->Step E0 h0 W w0 E h w->AR E N s a->Qc .normal a w)
  (Lw:∀s v h E w a u,KP s v h->Step E0 h0 W w0 E h w->AR E N s a->VR E v u->Qc (.panic [{ v:=u,recovered:=false }]) a w)
  (hp:Ih P N W ops (List.range ops.size) K KP s h):TC P N W E0 h0 w0 c Qc s h:=by
 subst hc
 intro E w a hs ha
 exact wp_region (Gz nh hK Lw _ s h E w a hp hs ha)
theorem AW{id:Nat}{c b:Code}(hc:c=.block id b)(hp:TC P N W E0 h0 w0 b (Exit.inBlock id Qc) s h):TC P N W E0 h0 w0 c Qc s h:=by
 subst hc
 intro E w a hs ha
 exact wp_block (hp E w a hs ha)
theorem Iw{ι:Type}{c b:Code}(hc:c=.loop b)(I:ι->St->AH->Prop)(μ:ι->Nat)(i:ι)(sU:I i s h)
  (step:∀i s h,I i s h->TC P N W E0 h0 w0 b (fun e a w=>match e with |.normal=>∃i' s' h' E',μ i'<μ i/\I i' s' h'/\Step E0 h0 W w0 E' h' w/\AR E' N s' a |e=>Qc e a w) s h):TC P N W E0 h0 w0 c Qc s h:=by
 subst hc
 intro E w a hs ha
 refine wp_loop_rounds (μ i+1) ?_
 have key:∀(n:Nat)(i:ι)(s:St)(h:AH)(E:Env)(w:World)(a:Act),μ i<n->I i s h->Step E0 h0 W w0 E h w->AR E N s a->Code.rounds P b Qc n a w:=by
  intro n
  induction n with
  |zero=>intro i s h E w a aL;omega
  |succ n ih=>
   intro i s h E w a aL hi hs ha
   rw[rounds_succ]
   refine wp_mono (step i s h hi E w a hs ha) ?_
   intro e a' w' hq
   cases e with
   |normal=>
    obtain⟨i',s',h',E',h1,h2,h3,h4⟩:=hq
    exact ih i' s' h' E' w' a' (by omega) h2 h3 h4
   |_=>exact hq
 exact key _ i s h E w a (by omega) sU hs ha
end
section
variable {P:Program}
abbrev VK:=List AV->AH->Prop
abbrev DK:=(Nat->AV)->AH->Prop
def Bb(G:VK->VK):Nat->VK
 |0=>fun _ _=>False
 |n+1=>G (Bb G n)
def dK(G:VK->VK):VK:=fun vs h=>∃n,Bb G n vs h
theorem cy{ι:Type}{G:VK->VK}(I:ι->VK)(μ:ι->Nat)(i:ι){vs:List AV}{h:AH}(h0:I i vs h)
  (step:∀(K:VK) i vs h,I i vs h->(∀i' PO h',μ i'<μ i->I i' PO h'->K PO h')->G K vs h):dK G vs h:=by
 have key:∀n i vs h,μ i<n->I i vs h->Bb G n vs h:=by
  intro n
  induction n with
  |zero=>intro i vs h aL;omega
  |succ n ih=>intro i vs h aL hi;exact step _ i vs h hi fun i' PO h' h1 h2=>ih i' PO h' (by omega) h2
 exact⟨μ i+1,key _ i vs h (by omega) h0⟩
def mT(P:Program):List ResultVar->List AV->AH->(List AV->Prop)->Prop
 |[],_,_,K=>K []
 |.tmp _::r,v::vs,h,K=>mT P r vs h fun l=>K (v::l)
 |.cell _ t::r,v::vs,h,K=>ao (mS P t) (gG P t) v h fun u _=>mT P r vs h fun l=>K (u::l)
 |_,_,_,_=>False
def tB:ResultVar->Nat
 |.tmp t=>t
 |.cell a _=>a
theorem GY{tm:Nat->AV}{ds:List gB}{h:AH}:∀(rs:List ResultVar)(K:List AV->Prop),mA P rs ⟨tm,ds⟩ h K=mT P rs (rs.map fun r=>tm (tB r)) h K
 |[],_=>rfl
 |.tmp t::rs,K=>by
  simp only[mA,List.map_cons,mT,tB]
  exact GY rs _
 |.cell a t::rs,K=>by
  simp only[mA,List.map_cons,mT,tB]
  congr 1
  funext v _
  exact GY rs _
def aJ(P:Program)(rs:List ResultVar)(R:AE->AH->Prop):VK:=fun vs h=>mT P rs vs h fun l=>R (.ret (jQ l)) h
theorem Io{rs:List ResultVar}{R:AE->AH->Prop}{tm:Nat->AV}{h:AH}:bQ P rs R .ret ⟨tm,[]⟩ h=aJ P rs R (rs.map fun r=>tm (tB r)) h:=by
 show([]=[]/\_)=_
 rw[GY]
 exact propext ⟨fun h=>h.2,fun h=>⟨rfl,h⟩⟩
theorem Sn{rs:List ResultVar}{R:AE->AH->Prop}{tm:Nat->AV}{h:AH}:bQ P rs R .normal ⟨tm,[]⟩ h=aJ P rs R (rs.map fun r=>tm (tB r)) h:=Io
attribute [simp] aJ mT
end
section
variable {P:Program} {N:Nat} {W:Nat->Prop} {pl:dj}
def ou(o:Oper):Bool:=match o.op with |.defer ..=>false |_=>true
def tG:Code->Bool
 |.region _ ops _=>ops.all ou
 |.seq a b |.cond _ a b=>tG a&&tG b
 |.block _ c |.loop c |.scope c=>tG c
 |_=>true
theorem W3{W:Nat->Prop}{o:Oper}(ho:ou o=true){ρ:Operand->AV}{ds:List gB}{h:AH}{K K':AV->List gB->AH->Prop}{KP yy:AV->AH->Prop}(hk:∀v h',K v ds h'->K' v ds h')(FY:∀v h',KP v h'->yy v h')
  (hp:ve P W o.op ρ ds h K KP):ve P W o.op ρ ds h K' yy:=by
 unfold ou at ho
 revert ho hp
 cases o.op<;>intro ho hp<;>simp only[ve]at hp ⊢<;>try exact hp.elim
 case alloc=>exact Af (fun v h'=>hk v h') hp
 case box=>exact Ea (fun v h'=>hk v h') hp
 case store=>exact Ad (fun h'=>hk ab h') hp
 case buildSlice=>exact Eb (fun v h'=>hk v h') hp
 case makeSlice=>exact GH (fun v h'=>hk v h') hp
 case makeMap t r=>
  cases r<;>simp only at hp ⊢
  exact D_ (fun v h'=>hk v h') hp
 case mapUpdate=>exact sf (fun h'=>hk ab h') hp
 case insert=>exact sf (fun h'=>hk ab h') hp
 case range=>exact Ae (fun v h'=>hk v h') hp
 case next x b=>
  cases b<;>simp only at hp ⊢
  exact Cp (fun v h'=>hk v h') hp
 case panic=>unfold uB at *;split at hp<;>simp_all
 case defer c=>cases ho
 case call c=>
  split at hp
  ·exact Ec (fun v h'=>hk v h') hp
  split at hp
  ·exact Cr (fun v h'=>hk v h') hp
  ·split at hp
   ·exact G2 (fun v h'=>hk v h') FY hp
   ·exact hp.elim
theorem Br(s:St)(d:Option Nat)(v:AV):(s.put N d v).ds=s.ds:=by
 unfold St.put
 split
 ·rfl
 ·split<;>rfl
section
variable {ds:List gB} {QP gN:cb}
theorem Sr(f_:∀v h,QP ds v h->gN ds v h){Hd:Nat->Prop}{held:Bool}{o:Oper}(ho:ou o=true){K K':St->AH->Prop}(hk:∀s h,s.ds=ds->K s h->K' s h){s:St}{h:AH}(hs:s.ds=ds)(hp:so P N W Hd QP held o K s h) :
  so P N W Hd gN held o K' s h:=by
 unfold so at *
 split at hp
 ·refine qOp_mono (fun v d _ hh=>?_) hp
  unfold ed at *
  split at hh
  ·exact hk _ _ (by rw[Br];exact hs) hh
  ·exact⟨hh.1,hk _ _ (by rw[Br];exact hs) hh.2⟩
 ·exact W3 ho (fun v h'=>hk _ _ (by rw[Br];exact hs)) (fun v h'=>by rw[hs];exact f_ v h') hp
theorem yT(f_:∀v h,QP ds v h->gN ds v h){Wf:Nat->Nat->Prop}{Hd:Nat->Nat->Prop}{ops:Array Oper}(ho:ops.all ou=true):∀(is:List (Nat×Bool)){K K':St->AH->Prop},(∀s h,s.ds=ds->K s h->K' s h)->∀{s:St}{h:AH},s.ds=ds->nS P N Wf Hd QP ops is K s h->nS P N Wf Hd gN ops is K' s h
 |[],_,_,hk,_,_,hs,hp=>hk _ _ hs hp
 |x::is,K,K',hk,s,h,hs,hp=>by
  simp only[nS]at hp ⊢
  split at hp
  ·rename_i o hx
   exact Sr f_ (Array.all_eq_true_iff_forall_mem.1 ho o (Array.mem_of_getElem? hx)) (fun s h hs=>yT f_ ho is hk hs) hs hp
  ·exact hp.elim
theorem J9{ops:Array Oper}:∀(is:List (Nat×Bool))(s:St),(Bh N ops is s).ds=s.ds
 |[],_=>rfl
 |x::is,s=>by simp only[Bh];rw[J9 is,Br]
theorem Co(f_:∀v h,QP ds v h->gN ds v h){Wf:Nat->Nat->Prop}{Hd:Nat->Nat->Prop}{ops:Array Oper}(ho:ops.all ou=true):∀(gs:List (Option (Nat×Bool)×List (Nat×Bool))){K K':St->AH->Prop},(∀s h,s.ds=ds->K s h->K' s h)->∀{s:St}{h:AH},s.ds=ds->lR P N Wf Hd QP ops gs K s h->lR P N Wf Hd gN ops gs K' s h
 |[],_,_,hk,_,_,hs,hp=>hk _ _ hs hp
 |(none,is)::gs,K,K',hk,s,h,hs,hp=>by
  simp only[lR]at hp ⊢
  exact yT f_ ho is (fun s h hs=>Co f_ ho gs hk hs) hs hp
 |(some (j,want),is)::gs,K,K',hk,s,h,hs,hp=>by
  simp only[lR]at hp ⊢
  split at hp
  ·exact G0 (yT f_ ho is (fun s h hs=>Co f_ ho gs hk hs) hs) (Co f_ ho gs hk (by rw[J9];exact hs)) hp
  ·exact hp.elim
mutual
theorem W0(f_:∀v h,QP ds v h->gN ds v h){Wf:Nat->Nat->Prop}{Hd:Nat->Nat->Prop}{ops:Array Oper}(ho:ops.all ou=true){K K':St->AH->Prop}(hk:∀s h,s.ds=ds->K s h->K' s h):∀(w:Way){s:St}{h:AH},s.ds=ds->yf P N Wf Hd QP ops w K s h->yf P N Wf Hd gN ops w K' s h
 |.mk path [],s,h,hs,hp=>by
  unfold yf at hp ⊢
  exact yT f_ ho path hk hs hp
 |.mk path (w::ws),s,h,hs,hp=>by
  unfold yf at hp ⊢
  exact yT f_ ho path (fun s h hs=>Gy f_ ho hk (w::ws) hs) hs hp
termination_by w=>SizeOf.sizeOf w
theorem Gy(f_:∀v h,QP ds v h->gN ds v h){Wf:Nat->Nat->Prop}{Hd:Nat->Nat->Prop}{ops:Array Oper}(ho:ops.all ou=true){K K':St->AH->Prop}(hk:∀s h,s.ds=ds->K s h->K' s h):∀(ws:List Way){s:St}{h:AH},s.ds=ds->oO P N Wf Hd QP ops ws K s h->oO P N Wf Hd gN ops ws K' s h
 |[],s,h,hs,hp=>by unfold oO;trivial
 |w::r,s,h,hs,hp=>by
  unfold oO at hp ⊢
  exact⟨W0 f_ ho hk w hs hp.1,Gy f_ ho hk r hs hp.2⟩
termination_by ws=>SizeOf.sizeOf ws
end
theorem QW(f_:∀v h,QP ds v h->gN ds v h){Wf:Nat->Nat->Prop}{Hd:Nat->Nat->Prop}{ops:Array Oper}(ho:ops.all ou=true){K K':St->AH->Prop}(hk:∀s h,s.ds=ds->K s h->K' s h){s:St}{h:AH}{p:uC}(hs:s.ds=ds)(hp:tZ P N Wf Hd QP ops p K s h):tZ P N Wf Hd gN ops p K' s h:=by
 unfold tZ at *
 split at hp
 ·exact Co f_ ho _ hk hs hp
 ·exact Co f_ ho _ (fun s h hs=>Gy f_ ho hk _ hs) hs hp
theorem Mf(f_:∀v h,QP ds v h->gN ds v h){ops:Array Oper}(ho:ops.all ou=true){id:Nat}{K K':St->AH->Prop}(hk:∀s h,s.ds=ds->K s h->K' s h){s:St}{h:AH}(hs:s.ds=ds)(hp:lI P N W QP pl id ops K s h) :
  lI P N W gN pl id ops K' s h:=by
 unfold lI at *
 split at hp
 ·exact yT f_ ho _ hk hs hp
 ·split at hp
  ·exact QW f_ ho hk hs hp
  ·obtain⟨Hd,h1,h2⟩:=hp;exact⟨Hd,h1,QW f_ ho hk hs h2⟩
theorem Hw{K K':St->AH->Prop}{Q Q':cH}(hk:∀s h,s.ds=ds->K s h->K' s h)(hq:∀x s h,s.ds=ds->Q x s h->Q' x s h):∀x s h,s.ds=ds->bJ K Q x s h->bJ K' Q' x s h:=by
 intro x s h hs hp
 cases x
 ·exact hk _ _ hs hp
 ·exact hq (.exit _) _ _ hs hp
 ·exact hq (.goto _) _ _ hs hp
 ·exact hq .ret _ _ hs hp
theorem yp(f_:∀v h,QP ds v h->gN ds v h):∀(c:Code){Q Q':cH},tG c=true->(∀x s h,s.ds=ds->Q x s h->Q' x s h)->∀{s:St}{h:AH},s.ds=ds->aw P N W pl c Q QP s h->aw P N W pl c Q' gN s h
 |.skip,_,_,_,hq,_,_,hs,hp=>hq _ _ _ hs hp
 |.label _,_,_,_,hq,_,_,hs,hp=>hq _ _ _ hs hp
 |.exit _,_,_,_,hq,_,_,hs,hp=>hq _ _ _ hs hp
 |.goto _,_,_,_,hq,_,_,hs,hp=>hq _ _ _ hs hp
 |.ret,_,_,_,hq,_,_,hs,hp=>hq _ _ _ hs hp
 |.rangeFunc ..,_,_,_,_,_,_,_,hp=>hp.elim
 |.refuse _,_,_,_,_,_,_,_,hp=>hp.elim
 |.region _ ops _,_,_,hd,hq,_,_,hs,hp=>Mf f_ hd (hq .normal) hs hp
 |.seq a b,_,_,hd,hq,_,_,hs,hp=>by
  simp only[tG,yC]at hd
  exact yp f_ a hd.1 (Hw (fun _ _ hs=>yp f_ b hd.2 hq hs) hq) hs hp
 |.cond c a b,_,_,hd,hq,_,_,hs,hp=>by
  simp only[tG,yC]at hd
  exact G1 (yp f_ a hd.1 hq hs) (yp f_ b hd.2 hq hs) hp
 |.block id c,Q,Q',hd,hq,_,_,hs,hp=>by
  refine yp f_ c (Q:=df id Q) hd ?_ hs hp
  intro x s h hs hp
  cases x with
  |exit j=>
   simp only[df]at hp ⊢
   split at hp
   ·rename_i he;rw[zX he];exact hq _ _ _ hs hp
   ·rename_i he;rw[zW he];exact hq _ _ _ hs hp
  |normal=>exact hq .normal _ _ hs hp
  |goto l=>exact hq (.goto l) _ _ hs hp
  |ret=>exact hq .ret _ _ hs hp
 |.scope c,Q,Q',hd,hq,_,_,hs,hp=>by
  refine yp f_ c (Q:=qo Q) hd ?_ hs hp
  intro x s h hs hp
  cases x with
  |exit j=>exact hq (.exit j) _ _ hs hp
  |normal=>exact hq .normal _ _ hs hp
  |goto l=>exact hp.elim
  |ret=>exact hq .ret _ _ hs hp
 |.loop c,Q,Q',hd,hq,s,h,hs,hp=>by
  obtain⟨n,hp⟩:=hp
  refine⟨n,?_⟩
  have key:∀(n:Nat)(s:St)(h:AH),s.ds=ds->qL (aw P N W pl c) n Q QP s h->qL (aw P N W pl c) n Q' gN s h:=by
   intro n
   induction n with
   |zero=>intro s h _ hp;exact hp.elim
   |succ n ih=>intro s h hs hp;exact yp f_ c hd (Hw (fun s h hs=>ih s h hs) hq) hs hp
  exact key n s h hs hp
end
abbrev WK:=Nat->Prop
abbrev EK:=Nat->VK
abbrev PK:=AV->AH->Prop
abbrev kP(QP:AV->AH->Prop):cb:=fun _=>QP
theorem Tj{F:cH->cb->St->AH->Prop}{Q:cH}{QP:cb}{L:(Nat->AV)->List AV}{G:VK->VK}
  (hs:∀(Kn:VK)(KQ:St->AH->Prop),(∀s h,KQ s h=Kn (L s.tm) h)->∀s h,F (bJ KQ Q) QP s h=G Kn (L s.tm) h):∀s h,hJ F Q QP s h=dK G (L s.tm) h:=by
 intro s h
 have key:∀n s h,qL F n Q QP s h=Bb G n (L s.tm) h:=by
  intro n
  induction n with
  |zero=>intro s h;rfl
  |succ n ih=>intro s h;exact hs (Bb G n) (fun s h=>qL F n Q QP s h) ih s h
 unfold hJ dK
 exact congrArg Exists (funext fun n=>key n s h)
theorem VH{rs:List ResultVar}{R:AE->AH->Prop}{c:Code}{q:cH}{s:St}{h:AH}(hd:tG c=true)(hq:∀s h,q .ret s h=aJ P rs R (rs.map fun r=>s.tm (tB r)) h)(hn:∀s h,q .normal s h=aJ P rs R (rs.map fun r=>s.tm (tB r)) h)
  (he:∀j s h,¬q (.exit j) s h) (hg:∀l s h,¬q (.goto l) s h) (hs:s.ds=[]) (hp:aw P N W pl c q (kP fun v h=>R (.bW v) h) s h):aw P N W pl c (bQ P rs R) (aW R) s h:=by
 refine yp (fun v h hh=>⟨rfl,hh⟩) c hd (fun x s h hs hh=>?_) hs hp
 obtain⟨tm,ds⟩:=s
 simp only at hs
 subst hs
 cases x with
 |ret=>rw[Io];rw[hq]at hh;exact hh
 |normal=>rw[Sn];rw[hn]at hh;exact hh
 |exit j=>exact(he j _ _ hh).elim
 |goto l=>exact(hg l _ _ hh).elim
end
section
theorem Fr.jT{h h1:AH}{S:Nat->Prop}(a:Fr h h1 S){id:Nat}{k:Kind}(hs:S id\/h.next<=id):Fr h (h1.jT id k) S:=
 ⟨a.next,fun i hi hn=>by rw[AH.qE,zW (fun e=>by subst e;exact hs.elim hn (fun h=>by omega))];exact a.dH i hi hn⟩
theorem Fr.E4{h h1:AH}(a:Fr h h1 fun _=>False){id:Nat}{k:Kind}(hs:h.next<=id):Fr h (h1.jT id k) fun _=>False:=a.jT (.inr hs)
theorem decode_ascii(s:ByteArray)(i:Nat)(h:i<s.size)(hc:s[i].toNat<128):Utf8.decode s i=(s[i].toNat,1):=by
 have hg:s.get! i=s[i]:=by
  cases s with
  |mk d=>
   show d[i]! = d[i]'h
   exact getElem!_pos d i h
 unfold Utf8.decode
 simp only[Nat.add_zero,hg]
 rw[zX hc]
theorem bM{h:AH}{i j:Nat}{a b:AO}(hi:h.obj i=some a)(hj:h.obj j=some b)(dx:a.ty≠b.ty):i≠j:=fun e=>by subst e;rw[hi]at hj;exact dx (by rw[Option.some.inj hj])
theorem cl.aU{α:Type}{f:α->List AV}{sz:Nat}{ty:TypeId}{h h':AH}{S:Nat->Prop}{x:AV}{l:List α}(hl:cl f sz ty h x l)(hf:Fr h h' S)(hx:∀id,x=.sl id 0 l.length->¬S id):cl f sz ty h' x l:=by
 rcases hl with hl |⟨id,rfl,ho⟩
 ·exact .inl hl
 ·exact .inr ⟨id,rfl,hf.obj ho (hx id rfl)⟩
theorem m7(A:List AV):∀(cs B:List AV)(o:Nat),bt (A++B) (A.length+o) cs=A++bt B o cs
 |[],B,o=>rfl
 |c::cs,B,o=>by
  simp only[bt]
  rw[List.set_append_right _ _ (by omega),Nat.add_sub_cancel_left,Nat.add_assoc,m7 A cs (B.set o c) (o+1)]
theorem nC:∀(cs X Y:List AV),cs.length=X.length->bt (X++Y) 0 cs=cs++Y
 |[],X,Y,h=>by have:X=[]:=List.length_eq_zero_iff.1 (by simpa using h.symm);subst this;rfl
 |c::cs,[],Y,h=>by simp at h
 |c::cs,x::X,Y,h=>by
  have h':cs.length=X.length:=by simpa using h
  have:=m7 [c] cs (X++Y) 0
  simp only[bt,List.cons_append,List.set_cons_zero,List.singleton_append,List.nil_append,List.length_singleton,Nat.add_zero,zG]at this ⊢
  rw[this,nC cs X Y h']
theorem wv{α:Type}{f:α->List AV}{k:Nat}(hf:∀x,(f x).length=k)(A B:List α)(x y:α):bt ((A++x::B).flatMap f) (A.length*k) (f y)=(A++y::B).flatMap f:=by
 simp only[List.flatMap_append,List.flatMap_cons]
 have h1:=m7 (A.flatMap f) (f y) (f x++B.flatMap f) 0
 rw[lZ hf,Nat.add_zero]at h1
 rw[h1,nC _ _ _ (by rw[hf,hf])]
theorem abA{α:Type}{f:α->List AV}{sz bytes:Nat}{ty:TypeId}{z:List Value}(hf:∀x,(f x).length=sz)(j9:0<sz)(hz:z.length=sz+sz)(h1:∀x,(f x).all cR=true)(hb:bytes<=1024)
  {h:AH} {s t:α} {W:Nat->Prop} {K:AV->AH->Prop}
  (hK:∀y h',cl f sz ty h' y [s,t]->dC (h.next<=·) y->Fr h h' (fun _=>False)->K y h') :
  dG (some (sz,ty,z)) 2 [(0,.agg (f s)),(1,.agg (f t))] h (fun v h4=>fE (some (sz,bytes,ty)) aQ v h4 W K):=by
 have e1:bt (z.map AV.sc) 0 (f s)=f s++(z.map AV.sc).drop sz:=by
  conv=>lhs;rw[<-List.take_append_drop sz (z.map AV.sc)]
  rw[nC _ _ _ (by rw[hf];simp;omega)]
 have e2:bt (f s++(z.map AV.sc).drop sz) sz (f t)=f s++f t:=by
  have:=m7 (f s) (f t) ((z.map AV.sc).drop sz) 0
  rw[hf,Nat.add_zero]at this
  rw[this]
  have:=nC (f t) ((z.map AV.sc).drop sz) [] (by rw[hf];simp;omega)
  rw[List.append_nil,List.append_nil]at this
  rw[this]
 have jh:dU (fun i=>some (i*sz,sz)) (z.map .sc) [(0,.agg (f s)),(1,.agg (f t))]=some (f s++f t):=by
  simp only[dU,eL,Nat.zero_mul,Nat.one_mul,zG,hf,zH]
  rw[zX (by simp;omega),e1,zX (by simp[hf];omega),e2]
 refine⟨_,⟨jh,by simp only[List.all_append,h1,Bool.and_self]⟩,2,f s++f t,.inr ⟨rfl,_,AH.b_ _ _,rfl,by simp[hf];omega,?_⟩,?_⟩
 ·rw[List.drop_zero,List.take_of_length_le (by simp[hf];omega)]
 ·show if 2=0 then _ else _
  rw[zW (by omega)]
  refine⟨⟨by omega,by omega⟩,?_⟩
  refine hK _ _ (.inr ⟨_,rfl,?_⟩) ?_ ((Fr.refl.alloc _).alloc _)
  ·rw[AH.b_];simp[aP]
  ·intro i off n he;cases he;simp only[AH.cm];omega
theorem Q8{α:Type}{f:α->List AV}{sz bytes:Nat}{ty:TypeId}{z:List Value}(hf:∀x,(f x).length=sz)(j9:0<sz)(hz:z.length=sz)(h1:∀x,(f x).all cR=true)(hb:bytes<=1024)
  {h:AH} {x:AV} {l:List α} {t:α} {W:Nat->Prop} {K:AV->AV->AH->Prop} (hl:cl f sz ty h x l) (hw:dC W x) (hn:l.length<=100000000)
  (hK:∀v y h',cl f sz ty h' y (l++[t])->dC (h.next<=·) y->Fr h h' (fun i=>∃off n,x=.sl i off n)->K v y h') :
  dG (some (sz,ty,z)) 1 [(0,.agg (f t))] h (fun v h4=>fE (some (sz,bytes,ty)) x v h4 W (K v)):=by
 exact OT hf j9 hz h1 hb hl hw hn (fun y h' a b c d=>hK (.sl h.next 0 1) y h' a b ⟨d,fun i hi hs=>c i hi (fun off n he=>hs ⟨off,n,he⟩)⟩)
theorem W9{α:Type}{f:α->List AV}{sz bytes:Nat}{ty:TypeId}{z:List Value}(hf:∀x,(f x).length=sz)(j9:0<sz)(hz:z.length=sz+sz)(h1:∀x,(f x).all cR=true)(hb:bytes<=1024)
  {h:AH} {s t:α} {W:Nat->Prop} {K:AV->AV->AH->Prop}
  (hK:∀v y h',cl f sz ty h' y [s,t]->dC (h.next<=·) y->Fr h h' (fun _=>False)->K v y h') :
  dG (some (sz,ty,z)) 2 [(0,.agg (f s)),(1,.agg (f t))] h (fun v h4=>fE (some (sz,bytes,ty)) aQ v h4 W (K v)):=by
 exact abA hf j9 hz h1 hb (hK (.sl h.next 0 2))
theorem cl.sl{α:Type}{f:α->List AV}{sz:Nat}{ty:TypeId}{h:AH}{y:AV}{l:List α}(hl:cl f sz ty h y l)(dx:l≠[]):∃id,y=.sl id 0 l.length:=by
 rcases hl with⟨_,h2⟩ |⟨id,h2,_⟩
 ·exact absurd h2 dx
 ·exact⟨id,h2⟩
theorem Q7{α:Type}{f:α->List AV}{sz bytes:Nat}{ty:TypeId}{z:List Value}(hf:∀x,(f x).length=sz)(j9:0<sz)(hz:z.length=sz)(hb:bytes<=1024)
  {h:AH} {x:AV} {l:List α} {t:α} {W:Nat->Prop} {K:AV->AV->AH->Prop} (h1:(f t).all cR=true) (hl:cl f sz ty h x l) (hw:dC W x) (hn:l.length<=100000000)
  (hK:∀y h',cl f sz ty h' y (l++[t])->dC (h.next<=·) y->(∀i,i<h.next->(∀off n,x≠.sl i off n)->h'.obj i=h.obj i)->h.next<=h'.next->K (.sl h.next 0 1) y h') :
  dG (some (sz,ty,z)) 1 [(0,.agg (f t))] h (fun v h4=>fE (some (sz,bytes,ty)) x v h4 W (K v)):=by
 have jh:dU (fun i=>some (i*sz,sz)) (z.map .sc) [(0,.agg (f t))]=some (f t):=by
  simp only[dU,cJ,Nat.zero_mul,hf,zZ,hz,zG,zU,and_self,zV]
  rw[nu (by simp[hf,hz])]
 refine⟨f t,⟨jh,h1⟩,?_⟩
 have D0:(l.length+1)*bytes<=140737488355328:=by
  have:(l.length+1)*bytes<=100000001*1024:=Nat.mul_le_mul (by omega) hb
  omega
 have kH:((f t).drop 0).take (1*sz)=f t:=by rw[List.drop_zero,List.take_of_length_le (by rw[hf];omega)]
 rcases hl with⟨rfl,rfl⟩ |⟨id,rfl,ho⟩
 ·refine⟨1,f t,.inr ⟨rfl,_,AH.b_ _ _,rfl,by simp[hf],kH.symm⟩,?_⟩
  show if 1=0 then _ else _
  rw[zW (by omega)]
  refine⟨⟨by omega,by simpa using D0⟩,?_⟩
  refine hK _ _ (.inr ⟨_,rfl,?_⟩) ?_ ?_ ?_
  ·rw[AH.b_];simp[aP]
  ·intro i off n he;cases he;simp only[AH.cm];omega
  ·intro i hi _;rw[AH.dM (by simp only[AH.cm];omega),AH.dM hi]
  ·simp only[AH.cm];omega
 ·have hid:=h.lt _ _ ho
  refine⟨1,f t,.inr ⟨rfl,_,AH.b_ _ _,rfl,by simp[hf],kH.symm⟩,?_⟩
  show if 1=0 then _ else _
  rw[zW (by omega)]
  have hlen:(l.flatMap f).length=l.length*sz:=lZ hf l
  refine⟨rfl,_,⟨hw _ _ _ rfl,by rw[AH.dM hid];exact ho,rfl,rfl,rfl,rfl,by simp[aP,hlen],by omega,D0⟩,?_⟩
  refine hK _ _ (.inr ⟨_,by rw[List.length_append,List.length_singleton],?_⟩) ?_ ?_ ?_
  ·rw[AH.da,zX (by simp[AH.cm,AH.l5])]
   simp only[aP,List.flatMap_append,List.flatMap_cons,List.flatMap_nil,List.append_nil]
   rw[List.take_of_length_le (by rw[hlen];exact zU _)]
  ·intro i off n he;cases he;simp only[AH.cm];omega
  ·intro i hi dx
   have:i≠id:=fun e=>dx 0 l.length (by rw[e])
   rw[AH.dM (by simp only[AH.cm,AH.l5];omega),AH.Dg this,AH.dM hi]
  ·simp only[AH.cm,AH.l5];omega
def cK{α:Type}(f:α->List AV)(sz:Nat)(ty:TypeId)(h:AH)(x:AV)(l:List α):Prop:=
 (x=aQ/\l=[])\/(∃a c,x=.sc (.slice a 0 c)/\l=[])\/∃id rest ro mC,x=.sl id 0 l.length/\(ro=false->mC=ty)/\h.obj id=some { cells:=l.flatMap f++rest,sz:=sz,ty:=mC,ro:=ro,kind:=.row }
theorem cl.dr{α:Type}{f:α->List AV}{sz:Nat}{ty:TypeId}{h:AH}{x:AV}{l:List α}(hl:cl f sz ty h x l):cK f sz ty h x l:=by
 rcases hl with hl |⟨id,h1,h2⟩
 ·exact .inl hl
 ·exact .inr (.inr ⟨id,[],false,ty,h1,fun _=>rfl,by simpa[aP] using h2⟩)
theorem cK.fr{α:Type}{f:α->List AV}{sz:Nat}{ty:TypeId}{h h':AH}{S:Nat->Prop}{x:AV}{l:List α}(hl:cK f sz ty h x l)(hf:Fr h h' S)(hs:∀id o,h.obj id=some o->(o.ro=false->o.ty=ty)->¬S id):cK f sz ty h' x l:=by
 rcases hl with hl |hl |⟨id,rest,ro,mC,h1,h3,h2⟩
 ·exact .inl hl
 ·exact .inr (.inl hl)
 ·exact .inr (.inr ⟨id,rest,ro,mC,h1,h3,hf.obj h2 (hs id _ h2 h3)⟩)
theorem cK.ba{α:Type}{f:α->List AV}{sz:Nat}{ty:TypeId}{h h':AH}{x:AV}{l:List α}(hl:cK f sz ty h x l)(hf:Fr h h' fun _=>False):cK f sz ty h' x l:=hl.fr hf fun _ _ _ _ h=>h
theorem cK.len{α:Type}{f:α->List AV}{sz:Nat}{ty:TypeId}{h:AH}{x:AV}{l:List α}(hl:cK f sz ty h x l):(aY x=false)/\∀K:AV->Prop,bL x K=K (.sc (.int .i64 l.length)):=by
 rcases hl with⟨rfl,rfl⟩ |⟨a,c,rfl,rfl⟩ |⟨id,rest,ro,mC,rfl,_,_⟩<;>exact⟨rfl,fun _=>rfl⟩
theorem cK.one{α:Type}{f:α->List AV}{sz:Nat}{ty:TypeId}{h:AH}{x:AV}{l:List α}(hl:cK f sz ty h x l):cR x=true/\cJ x=some [x]:=by
 rcases hl with⟨rfl,rfl⟩ |⟨a,c,rfl,rfl⟩ |⟨id,rest,ro,mC,rfl,_,_⟩<;>exact⟨rfl,rfl⟩
theorem cK.at_{α:Type}{f:α->List AV}{sz:Nat}{ty:TypeId}{h:AH}{x:AV}{l:List α}(hl:cK f sz ty h x l)(hf:∀y,(f y).length=sz){i:Nat}{y:α}(hy:l[i]?=some y) :
  ∃id cells ro mC,x=.sl id 0 l.length/\h.obj id=some { cells:=cells,sz:=sz,ty:=mC,ro:=ro,kind:=.row }/\(cells.drop (i*sz)).take sz=f y/\i*sz+sz<=cells.length/\∀j,j<sz->cells[i*sz+j]?=(f y)[j]?:=by
 have hi:i<l.length:=(zM.1 hy).1
 rcases hl with⟨_,rfl⟩ |⟨_,_,_,rfl⟩ |⟨id,rest,ro,mC,h1,_,h2⟩
 ·simp at hi
 ·simp at hi
 ·have hlen:(l.flatMap f).length=l.length*sz:=lZ hf l
  have hle:i*sz+sz<=(l.flatMap f).length:=by
   rw[hlen,<-Nat.succ_mul]
   exact Nat.mul_le_mul_right _ hi
  refine⟨id,_,ro,mC,h1,h2,?_,by simp only[List.length_append];omega,fun j hj=>?_⟩
  ·rw[List.drop_append_of_le_length (by omega),List.take_append_of_le_length (by rw[List.length_drop];omega)]
   exact rj hf l i y hy
  ·rw[List.getElem?_append_left (by omega),ep hf l i j hj,hy];rfl
variable {P:Program} {α:Type} {f:α->List AV} {sz:Nat} {ty:TypeId} {h:AH} {x:AV} {l:List α} {i:Nat} {y:α} {W:Nat->Prop}
theorem jG{K:AV->Nat->Prop}(hl:cK f sz ty h x l)(hf:∀y,(f y).length=sz)(hi:l[i]?=some y)(hK:∀q,K (.agg (f y)) q) :
  bB (some (sz,none)) x (.sc (.int .i64 i)) fun t=>ao (some true) (some sz) t h K:=by
 have aL:i<l.length:=(zM.1 hi).1
 obtain⟨id,cells,ro,mC,rfl,ho,h1,h2,_⟩:=hl.at_ hf hi
 simp only[kN,kU,ho,jX,zG,zY]
 refine⟨⟨by omega,by omega⟩,h2,?_⟩
 rw[h1];exact hK _
theorem dJ{K:AV->Nat->Prop}{k:Nat}{v:AV}(hl:cK f sz ty h x l)(hf:∀y,(f y).length=sz)(hi:l[i]?=some y)(hk:k<sz)(hv:(f y)[k]?=some v)(hK:∀q,K v q) :
  bB (some (sz,none)) x (.sc (.int .i64 i)) fun t=>ah (some k) t fun t=>ao (some false) (some 1) t h K:=by
 have aL:i<l.length:=(zM.1 hi).1
 obtain⟨id,cells,ro,mC,rfl,ho,h1,h2,h3⟩:=hl.at_ hf hi
 simp only[kN,aj,au,ho,ap,zG,zY]
 refine⟨⟨by omega,by omega⟩,?_⟩
 rw[h3 _ hk,hv];exact hK _
theorem ja{K:AV->Nat->Prop}{v:AV}(hl:cK f 1 ty h x l)(hf:∀y,(f y).length=1)(hi:l[i]?=some y)(hv:f y=[v])(hK:∀q,K v q) :
  bB (some (1,none)) x (.sc (.int .i64 i)) fun t=>ao (some false) (some 1) t h K:=by
 have aL:i<l.length:=(zM.1 hi).1
 obtain⟨id,cells,ro,mC,rfl,ho,h1,h2,h3⟩:=hl.at_ hf hi
 have h4:=h3 0 (by omega)
 rw[Nat.mul_one]at h4
 simp only[kN,au,ho,ap,zG,zY,Nat.mul_one]
 refine⟨⟨by omega,by omega⟩,?_⟩
 rw[show i=i+0 by omega,h4,hv];exact hK _
theorem gD{K:AV->AH->Prop}{z:List Value}(hl:cK f sz ty h x l)(hf:∀y,(f y).length=sz)(ho:(f y).all cR=true)(hi:l[i]?=some y)(hz:z.all (·.oneCell')=true)(hn:z.length=sz)(hW:∀id,h.next<=id->W id)
  (hK:∀vn h',Fr h h' (fun _=>False)->h.next<=vn->h'.obj vn=some (aP (f y) sz ty)->K (.ptr vn 0) h') :
  bB (some (sz,none)) x (.sc (.int .i64 i)) fun t=>ao (some true) (some sz) t h fun v _=>bx (some z) sz ty h fun p h1=>aD (some sz) p v h1 W fun h2=>K p h2:=by
 refine jG hl hf hi fun q=>?_
 have hv:=AH.b_ h (aP (z.map AV.sc) sz ty)
 simp only[aV,aE,hv,eL,bz]
 refine⟨hz,⟨hW _ (zU _),ho,hf _,by simp[hn]⟩,?_⟩
 refine hK _ _ ((Fr.refl.alloc _).put (.inr (zU _))) (zU _) ?_
 rw[js hv]
 congr 1
 simp only[aP]
 congr 1
 exact nu (by simp[hn,hf])
theorem dW{K:AV->Nat->Prop}{cs:List AV}{vn:Nat}(ho:h.obj vn=some (aP cs sz ty))(hc:cs.length=sz)(hK:∀q,K (.agg cs) q):ao (some true) (some sz) (.ptr vn 0) h K:=by
 simp only[kU,ho,jX,zG,List.drop_zero]
 refine⟨by omega,?_⟩
 rw[List.take_of_length_le (by omega)];exact hK _
theorem dV{K:AV->AH->Prop}{cs:List AV}(ho:cs.all cR=true)(hK:∀vn h',Fr h h' (fun _=>False)->h.next<=vn->h'.obj vn=some (aP cs sz ty)->K (.ptr vn 0) h'):eR sz ty (.agg cs) h K:=
 ⟨cs,rfl,ho,hK _ _ (Fr.refl.alloc _) (zU _) (AH.b_ h _)⟩
theorem jt{K:AV->AH->Prop}{z:List Value}{cs:List AV}(ho:cs.all cR=true)(hc:cs.length=sz)(hz:z.all (·.oneCell')=true)(hn:z.length=sz)(hW:∀id,h.next<=id->W id)
  (hK:∀vn h',Fr h h' (fun _=>False)->h.next<=vn->h'.obj vn=some (aP cs sz ty)->K (.ptr vn 0) h') :
  bx (some z) sz ty h fun p h1=>aD (some sz) p (.agg cs) h1 W fun h2=>K p h2:=by
 have hv:=AH.b_ h (aP (z.map AV.sc) sz ty)
 simp only[aV,aE,hv,eL,bz]
 refine⟨hz,⟨hW _ (zU _),ho,hc,by simp[hn]⟩,?_⟩
 refine hK _ _ ((Fr.refl.alloc _).put (.inr (zU _))) (zU _) ?_
 rw[js hv]
 congr 1
 simp only[aP]
 congr 1
 exact nu (by simp[hn,hc])
theorem Fr.cj{h h1 h2:AH}(a:Fr h h1 fun _=>False)(b:Fr h1 h2 fun _=>False):Fr h h2 fun _=>False:=a.trans (b.mono fun _ h=>h.elim)
theorem Fr.bU{h h1:AH}(a:Fr h h1 fun _=>False){id:Nat}{o:AO}(ho:h.obj id=some o):h1.obj id=some o:=a.obj ho fun h=>h
section
variable {α:Type} {f:α->List AV} {sz bytes:Nat} {ty:TypeId} {h:AH} {h0:AH} {W:Nat->Prop} {K:AV->AH->Prop} {id:Nat}
theorem L3{n m:Nat}{K:AV->Prop}(h:n<=m)(hK:K (.sl id 0 n)):ur (some sz) (.sl id 0 m) none (some (.sc (.int .i64 n))) h0 K:=by
 refine⟨0,n,rfl,rfl,⟨by omega,by omega,.inl ⟨rfl,by omega⟩⟩,?_⟩
 simpa using hK
end
theorem qz{sz:Nat}{ty:TypeId}{z:List Value}{len:Nat}{parts:List (Nat×AV)}{cells:List AV}{h:AH}{K:AV->AH->Prop}(hf:dU (fun i=>some (i*sz,sz)) (z.map .sc) parts=some cells/\cells.all cR=true)
  (hK:∀id h',Fr h h' (fun _=>False)->h.next<=id->h'.obj id=some (aP cells sz ty)->K (.sl id 0 len) h'):dG (some (sz,ty,z)) len parts h K:=
 ⟨cells,hf,hK _ _ (Fr.refl.alloc _) (zU _) (AH.b_ h _)⟩
theorem qt(x y:Int):(x != y)=!decide (x=y):=by by_cases h:x=y<;>simp[h]
abbrev B(b:Bool):AV:=.sc (.bool b)
abbrev I(n:Int):AV:=.sc (.int .i64 n)
abbrev U(n:Int):AV:=.sc (.int .u64 n)
abbrev Sb(s:ByteArray):AV:=.sc (.string s)
end
section
variable {P:Program} {κ:Type} {enc:κ->AV} {kt et:TypeId} {h:AH} {id:Nat} {l:List (κ×AV)} {n:κ} {z v:AV} {ok:Bool} {ty:TypeId}
def wh[DecidableEq κ](P:Program)(kt:TypeId)(enc:κ->AV):Prop:=∀a b,ky P kt (enc a) (enc b)=some (decide (a=b))
theorem Nv(hs:jg P kt=true):wh P kt Sb:=fun a b=>by simp[ky,hs]
theorem Sa(hf:lE P kt=some [true,false]):wh P kt (fun x:ByteArray×Int=>AV.agg [Sb x.1,I x.2]):=fun a b=>by
 obtain⟨a1,a2⟩:=a
 obtain⟨b1,b2⟩:=b
 simp only[ky,hf,io,Option.bind_some,List.length_cons,List.length_nil,and_self,zV,yB,Bool.and_true,Prod.mk.injEq]
 by_cases h1:a1=b1<;>by_cases h2:a2=b2<;>simp[h1,h2]
def fw[DecidableEq κ](n:κ):List (κ×AV)->Option AV
 |[]=>none
 |(k,v)::l=>if n=k then some v else fw n l
abbrev P8(enc:κ->AV)(l:List (κ×AV)):List (AV×AV):=l.map fun x=>(enc x.1,x.2)
abbrev mw(enc:κ->AV)(ty:TypeId)(l:List (κ×AV)):AO:={ cells:=[],sz:=0,ty:=ty,kind:=.map (P8 enc l) }
theorem C6[DecidableEq κ](hk:wh P kt enc)(n:κ):∀(l:List (κ×AV))(i:Nat),(∃j v,fw n l=some v/\nE P kt (enc n) (P8 enc l) i=some (some (j,v)))\/(fw n l=none/\nE P kt (enc n) (P8 enc l) i=some none)
 |[],i=>.inr ⟨rfl,rfl⟩
 |(k,v)::l,i=>by
  simp only[fw,List.map_cons,nE,hk n k]
  by_cases e:n=k
  ·rw[zX e,zL e]
   exact .inl ⟨i,v,rfl,rfl⟩
  ·rw[zW e,zK e]
   exact C6 hk n l (i+1)
theorem HQ[DecidableEq κ](hk:wh P kt enc):sd P kt (enc n)=true:=by unfold sd;rw[hk];rfl
def im(ok:Bool)(z:AV):Option AV->AV
 |some v=>if ok then .dD [v,.b true] else v
 |none=>if ok then .dD [z,.b false] else z
theorem R1[DecidableEq κ]{K:AV->Prop}(hk:wh P kt enc)(hz:pg P et=some z)(hK:K (im ok z (fw n l))):yL P (kt,et) (P8 enc l) (enc n) ok K:=by
 refine⟨HQ hk,?_⟩
 rcases C6 hk n l 0 with⟨j,v,h1,h2⟩ |⟨h1,h2⟩
 ·rw[h1]at hK
  exact⟨_,z,h2,hz,hK⟩
 ·rw[h1]at hK
  exact⟨_,z,h2,hz,hK⟩
theorem jo[DecidableEq κ]{K:AV->Option Nat->Prop}(hk:wh P kt enc)(hz:pg P et=some z)(ho:h.obj id=some (mw enc ty l))(hK:∀d,K (im ok z (fw n l)) d):hG P (some (kt,et)) (.mp id) (enc n) ok h K:=
 ⟨_,_,⟨ho,rfl⟩,R1 hk hz (hK _)⟩
theorem vu[DecidableEq κ]{W:Nat->Prop}{K:AH->Prop}(hk:wh P kt enc)(hW:W id)(ho:h.obj id=some (mw enc ty l))(hn:fw n l=none)
  (hK:∀h',h'.obj id=some (mw enc ty (l++[(n,v)]))->Fr h h' (·=id)->K h'):eH P (some (kt,et)) (.mp id) (enc n) v h W K:=by
 rcases C6 hk n l 0 with⟨j,v,h1,h2⟩ |⟨h1,h2⟩
 ·rw[hn]at h1;cases h1
 ·refine⟨_,_,none,⟨hW,ho,rfl,rfl⟩,HQ hk,h2,hK _ ?_ ?_⟩
  ·rw[AH.qE,zX rfl,ho]
   simp[mw,Ua]
  ·exact Fr.refl.jT (.inl rfl)
theorem AA{K:AV->AH->Prop}{t:TypeId}(hK:∀id h',h'.obj id=some (mw enc t [])->h.next<=id->Fr h h' (fun _=>False)->K (.mp id) h'):rH t h K:=
 hK _ _ (AH.b_ h _) (zU _) (Fr.refl.alloc _)
theorem Ol[DecidableEq κ]{a b:List (κ×AV)}:fw n (a++b)=(fw n a).or (fw n b):=by
 induction a with
 |nil=>rfl
 |cons x a ih=>
  obtain⟨k,w⟩:=x
  simp only[List.cons_append,fw]
  by_cases e:n=k
  ·rw[zX e,zX e];rfl
  ·rw[zW e,zW e,ih]
theorem AL[DecidableEq κ]{α:Type}{f:α->κ}{g:α->AV}:∀{l:List α},fw n (l.map fun x=>(f x,g x))=(l.find? fun x=>decide (f x=n)).map g
 |[]=>rfl
 |x::l=>by
  simp only[List.map_cons,fw,List.find?_cons]
  by_cases e:n=f x
  ·rw[zX e,zL e.symm];rfl
  ·rw[zW e,zK (fun h=>e h.symm)];exact AL
theorem qA{α:Type}{f:α->List AV}{sz bytes:Nat}{ty:TypeId}{z:List Value}(hf:∀x,(f x).length=sz)(j9:0<sz)(hz:z.length=sz)(hb:bytes<=1024)
  {h:AH} {x:AV} {l:List α} {t:α} {W:Nat->Prop} {K:AV->AV->AH->Prop} {v0:AV} (hv:cJ v0=some (f t)) (h1:(f t).all cR=true) (hl:cl f sz ty h x l) (hw:dC W x) (hn:l.length<=100000000)
  (hK:∀y h',cl f sz ty h' y (l++[t])->dC (h.next<=·) y->Fr h h' (fun i=>∃off n,x=.sl i off n)->K (.sl h.next 0 1) y h') :
  dG (some (sz,ty,z)) 1 [(0,v0)] h (fun v h4=>fE (some (sz,bytes,ty)) x v h4 W (K v)):=by
 have Yi:∀y h',cl f sz ty h' y (l++[t])->dC (h.next<=·) y->(∀i,i<h.next->(∀off n,x≠.sl i off n)->h'.obj i=h.obj i)->h.next<=h'.next->K (.sl h.next 0 1) y h':=fun y h' a b c d=>hK y h' a b ⟨d,fun i hi hs=>c i hi (fun off n he=>hs ⟨off,n,he⟩)⟩
 have jh:dU (fun i=>some (i*sz,sz)) (z.map .sc) [(0,v0)]=some (f t):=by
  simp only[dU,hv,Nat.zero_mul,hf,zZ,hz,zG,zU,and_self,zV]
  rw[nu (by simp[hf,hz])]
 refine⟨f t,⟨jh,h1⟩,?_⟩
 have D0:(l.length+1)*bytes<=140737488355328:=by
  have:(l.length+1)*bytes<=100000001*1024:=Nat.mul_le_mul (by omega) hb
  omega
 have kH:((f t).drop 0).take (1*sz)=f t:=by rw[List.drop_zero,List.take_of_length_le (by rw[hf];omega)]
 rcases hl with⟨rfl,rfl⟩ |⟨id,rfl,ho⟩
 ·refine⟨1,f t,.inr ⟨rfl,_,AH.b_ _ _,rfl,by simp[hf],kH.symm⟩,?_⟩
  show if 1=0 then _ else _
  rw[zW (by omega)]
  refine⟨⟨by omega,by simpa using D0⟩,?_⟩
  refine Yi _ _ (.inr ⟨_,rfl,?_⟩) ?_ ?_ ?_
  ·rw[AH.b_];simp[aP]
  ·intro i off n he;cases he;simp only[AH.cm];omega
  ·intro i hi _;rw[AH.dM (by simp only[AH.cm];omega),AH.dM hi]
  ·simp only[AH.cm];omega
 ·have hid:=h.lt _ _ ho
  refine⟨1,f t,.inr ⟨rfl,_,AH.b_ _ _,rfl,by simp[hf],kH.symm⟩,?_⟩
  show if 1=0 then _ else _
  rw[zW (by omega)]
  have hlen:(l.flatMap f).length=l.length*sz:=lZ hf l
  refine⟨rfl,_,⟨hw _ _ _ rfl,by rw[AH.dM hid];exact ho,rfl,rfl,rfl,rfl,by simp[aP,hlen],by omega,D0⟩,?_⟩
  refine Yi _ _ (.inr ⟨_,by rw[List.length_append,List.length_singleton],?_⟩) ?_ ?_ ?_
  ·rw[AH.da,zX (by simp[AH.cm,AH.l5])]
   simp only[aP,List.flatMap_append,List.flatMap_cons,List.flatMap_nil,List.append_nil]
   rw[List.take_of_length_le (by rw[hlen];exact zU _)]
  ·intro i off n he;cases he;simp only[AH.cm];omega
  ·intro i hi dx
   have:i≠id:=fun e=>dx 0 l.length (by rw[e])
   rw[AH.dM (by simp only[AH.cm,AH.l5];omega),AH.Dg this,AH.dM hi]
  ·simp only[AH.cm,AH.l5];omega
def TW(T:TypeId->Bool)(n0:Nat)(h:AH)(id:Nat):Prop:=n0<=id/\∃o,h.obj id=some o/\o.ro=false/\T o.ty=true
theorem TW.trans{T:TypeId->Bool}{n0:Nat}{h h1 h2:AH}(a:Fr h h1 (TW T n0 h))(b:Fr h1 h2 (TW T n0 h1)):Fr h h2 (TW T n0 h):=by
 refine⟨zR a.next b.next,fun id eS gT=>?_⟩
 have e1:=a.dH id eS gT
 rw[b.dH id (Nat.lt_of_lt_of_le eS a.next) ?_,e1]
 rintro⟨h3,o,h4,h5⟩
 exact gT ⟨h3,o,by rw[<-e1];exact h4,h5⟩
theorem TW.aU{T:TypeId->Bool}{n0:Nat}{h h1:AH}(a:Fr h h1 fun _=>False):Fr h h1 (TW T n0 h):=a.mono fun _ h=>h.elim
theorem TW.jm{T:TypeId->Bool}{n0 id:Nat}{h h1:AH}{o:AO}(a:Fr h h1 (·=id))(hn:n0<=id)(ho:h.obj id=some o)(hr:o.ro=false)(ht:T o.ty=true):Fr h h1 (TW T n0 h):=a.mono fun i e=>by subst e;exact⟨hn,o,ho,hr,ht⟩
theorem TW.back{T:TypeId->Bool}{n0:Nat}{h h':AH}(hf:Fr h h' (TW T n0 h)){id:Nat}(hs:TW T n0 h' id):TW T n0 h id\/h.next<=id:=by
 by_cases hl:id<h.next
 ·refine .inl (Classical.byContradiction fun hc=>hc ?_)
  obtain⟨h1,o,h2,h3⟩:=hs
  exact⟨h1,o,by rw[<-hf.dH id hl hc];exact h2,h3⟩
 ·exact .inr (by omega)
theorem TW.no{T:TypeId->Bool}{n0:Nat}{h:AH}{id:Nat}{o:AO}(ho:h.obj id=some o)(h1:o.ro=false->T o.ty=false):¬TW T n0 h id:=by
 rintro⟨_,o',h3,h5,h4⟩
 rw[ho]at h3;cases h3
 rw[h1 h5]at h4;cases h4
theorem TW.obj{T:TypeId->Bool}{n0:Nat}{h h':AH}(hf:Fr h h' (TW T n0 h)){id:Nat}{o:AO}(ho:h.obj id=some o)(h1:T o.ty=false):h'.obj id=some o:=hf.obj ho (TW.no ho fun _=>h1)
theorem cK.pM{T:TypeId->Bool}{n0:Nat}{α:Type}{f:α->List AV}{sz:Nat}{ty:TypeId}{h h':AH}{x:AV}{l:List α}(hl:cK f sz ty h x l)(hf:Fr h h' (TW T n0 h))(ht:T ty=false):cK f sz ty h' x l:=hl.fr hf fun _ _ ho kA=>TW.no ho fun hr=>by rw[kA hr];exact ht
theorem cl.pM{T:TypeId->Bool}{n0:Nat}{α:Type}{f:α->List AV}{sz:Nat}{ty:TypeId}{h h':AH}{x:AV}{l:List α}(hl:cl f sz ty h x l)(hf:Fr h h' (TW T n0 h))(ht:T ty=false):cl f sz ty h' x l:=by
 rcases hl with hl |⟨id,h1,h2⟩
 ·exact .inl hl
 ·exact .inr ⟨id,h1,TW.obj hf h2 ht⟩
theorem Fr.MX{h h1:AH}{S:Nat->Prop}(a:Fr h h1 S){id:Nat}{k:Kind}(hs:S id\/h.next<=id):Fr h (h1.jT id k) S:=a.jT hs
theorem VW{id:Nat}:cJ (.mp id)=some [.mp id]:=rfl
theorem VU:cJ (.sc (.map none))=some [.sc (.map none)]:=rfl
attribute [simp] VW VU
end
section
structure Bd where
 P:Program
 N:Nat
 pl:dj
structure Cx where
 W:WK
 R:VK
 N:VK
 E:EK
 P:PK
abbrev GK:=WK->VK->VK->EK->PK->VK->VK
def u0:Code->Code
 |.seq a _ |.cond _ a _ |.block _ a |.loop a |.scope a=>a
 |c=>c
def u1:Code->Code
 |.seq _ b |.cond _ _ b=>b
 |c=>c
def uc:Code->Operand
 |.cond o _ _=>o
 |_=>.tmp 0
def uo:Code->Array Oper
 |.region _ o _=>o
 |_=>#[]
def ui:Code->Nat
 |.region i _ _=>i
 |_=>0
def ud:Code->Bool
 |.region _ _ d=>d
 |_=>false
abbrev TB(B:Bd)(W:WK)(QP:cb)(x:Code)(q:cH)(f:KT):Prop:=aw B.P B.N W B.pl x q QP=f
abbrev RK:=AE->AH->Prop
def fr:Nat->Nat->List (Nat×Bool)
 |_,0=>[]
 |a,n+1=>(a,false)::fr (a+1) n
abbrev OK:=WK->cH->cb->St->AH->Prop
def CW:List Nat->WK->Nat->WK
 |[],W=>fun _=>W
 |a::l,W=>DB (a::l) fun _=>W
def z_(B:Bd)(x:Code):uC:=(sH B.pl (ui x)).getD ⟨[],false,[],[]⟩
def gi(g:Dk):List (Nat×Bool):=(g.head?.map (·.2)).getD []
def gj(g:Dk):Nat:=((g.head?.bind (·.1)).map (·.1)).getD 0
def gw(g:Dk):Bool:=((g.head?.bind (·.1)).map (·.2)).getD false
abbrev TG(B:Bd)(W:WK)(QP:cb)(x:Code)(g:Dk)(K f:KT):Prop:=lR B.P B.N (CW (z_ B x).pure W) mg QP (uo x) g K=f
theorem So{P:Program}{N:Nat}{W:WK}{pl:dj}{a b:Code}{Q:cH}{QP:cb}:aw P N W pl (.seq a b) Q QP=aw P N W pl a (bJ (aw P N W pl b Q QP) Q) QP:=rfl
theorem OQ{P:Program}{N:Nat}{W:WK}{pl:dj}{o:Operand}{a b:Code}{Q:cH}{QP:cb}:aw P N W pl (.cond o a b) Q QP=fun s h=>aF (lU s o) (aw P N W pl a Q QP s h) (aw P N W pl b Q QP s h):=rfl
section
variable {B:Bd} {W:WK} {QP:cb} {x:Code} {q:cH} {K:KT} {g:Dk}
theorem sq(f:KT)(hb:TB B W QP (u1 x) q K)(e:(x,aw B.P B.N W B.pl (u0 x) (bJ K q) QP)=(.seq (u0 x) (u1 x),f):=by kernel_rfl):TB B W QP x q f:=by
 obtain⟨e1,e2⟩:=Prod.mk.inj e
 unfold TB at *;subst hb;rw[e1];exact e2
theorem sl(f:KT)(e:(x,aw B.P B.N W B.pl (u0 x) (bJ (aw B.P B.N W B.pl (u1 x) q QP) q) QP)=(.seq (u0 x) (u1 x),f):=by kernel_rfl):TB B W QP x q f:=sq f rfl e
theorem sn{f:KT}(hb:TB B W QP (u1 x) q K)(ha:TB B W QP (u0 x) (bJ K q) f)(e:x=.seq (u0 x) (u1 x):=by kernel_rfl):TB B W QP x q f:=by
 unfold TB at *;subst hb;rw[e];exact ha
theorem cd(f:KT){A A':KT}(hA:TB B W QP (u0 x) q A)(hB:TB B W QP (u1 x) q A')(e:(x,fun s h=>aF (lU s (uc x)) (A s h) (A' s h))=(.cond (uc x) (u0 x) (u1 x),f):=by kernel_rfl):TB B W QP x q f:=by
 obtain⟨e1,e2⟩:=Prod.mk.inj e
 unfold TB at *;subst hA hB;rw[e1];exact e2
theorem bk{f:KT}(i:Nat)(ha:TB B W QP (u0 x) (df i q) f)(e:x=.block i (u0 x):=by kernel_rfl):TB B W QP x q f:=by unfold TB at *;rw[e];exact ha
theorem sp{f:KT}(ha:TB B W QP (u0 x) (qo q) f)(e:x=.scope (u0 x):=by kernel_rfl):TB B W QP x q f:=by unfold TB at *;rw[e];exact ha
theorem sm(f:KT)(e:aw B.P B.N W B.pl x q QP=f:=by kernel_rfl):TB B W QP x q f:=e
theorem tr:TB B W QP x q (aw B.P B.N W B.pl x q QP):=rfl
theorem gr{f:KT}(hr:TG B W QP x (z_ B x).ij (q .normal) f)(e:(x,sH B.pl (ui x))=(.region (ui x) (uo x) (ud x),some ⟨(z_ B x).ij,false,[],(z_ B x).pure⟩):=by kernel_rfl):TB B W QP x q f:=by
 obtain⟨e1,e2⟩:=Prod.mk.inj e
 unfold TB TG at *;subst hr;rw[e1]
 funext s h
 cases hp:(z_ B x).pure with
 |nil=>rw[hp]at e2;rw[L_ e2,<-e1,hp];rfl
 |cons a l=>rw[hp]at e2;rw[GR e2,<-e1,hp];rfl
theorem gn(f:KT){C:KT}(hr:TG B W QP x g.tail K C)(e:(g,nS B.P B.N (CW (z_ B x).pure W) mg QP (uo x) (gi g) C)=((none,gi g)::g.tail,f):=by kernel_rfl):TG B W QP x g K f:=by
 obtain⟨e1,e2⟩:=Prod.mk.inj e
 unfold TG at *;subst hr;rw[e1];exact e2
theorem gl(f:KT)(e:(g,nS B.P B.N (CW (z_ B x).pure W) mg QP (uo x) (gi g) K)=([(none,gi g)],f):=by kernel_rfl):TG B W QP x g K f:=by
 obtain⟨e,e2⟩:=Prod.mk.inj e
 unfold TG;rw[e];exact e2
theorem gx(f:KT){C:KT}(hr:TG B W QP x g.tail K C)(e:(g,km (uo x) (gj g),fun s h=>bw (gw g) (s.tm ((km (uo x) (gj g)).getD 0)) (nS B.P B.N (CW (z_ B x).pure W) mg QP (uo x) (gi g) C s h) (C (Bh B.N (uo x) (gi g) s) h))=((some (gj g,gw g),gi g)::g.tail,some ((km (uo x) (gj g)).getD 0),f):=by kernel_rfl):TG B W QP x g K f:=by
 obtain⟨e1,e3⟩:=Prod.mk.inj e
 obtain⟨e2,e4⟩:=Prod.mk.inj e3
 unfold TG at *;subst hr;rw[<-e4];clear e e3 e4
 generalize hd:(km (uo x) (gj g)).getD 0=d at *
 generalize gj g=j at *
 generalize gw g=w at *
 generalize gi g=i at *
 generalize List.tail g=t at *
 subst e1
 funext s h
 simp only[lR,e2]
theorem si(hb:TB B W QP (u1 x) q K)(e:x=.seq (u0 x) (u1 x):=by kernel_rfl):TB B W QP x q (aw B.P B.N W B.pl (u0 x) (bJ K q) QP):=by
 unfold TB at *;subst hb;rw[<-So,<-e]
theorem ci{A A':KT}(hA:TB B W QP (u0 x) q A)(hB:TB B W QP (u1 x) q A')(e:x=.cond (uc x) (u0 x) (u1 x):=by kernel_rfl):TB B W QP x q (fun s h=>aF (lU s (uc x)) (A s h) (A' s h)):=by
 unfold TB at *;subst hA hB;rw[<-OQ,<-e]
theorem gm{C:KT}(hr:TG B W QP x g.tail K C)(e:g=(none,gi g)::g.tail:=by kernel_rfl):TG B W QP x g K (nS B.P B.N (CW (z_ B x).pure W) mg QP (uo x) (gi g) C):=gn _ hr (Prod.ext e rfl)
theorem gz{C:KT}(hr:TG B W QP x g.tail K C)(e:(g,km (uo x) (gj g))=((some (gj g,gw g),gi g)::g.tail,some ((km (uo x) (gj g)).getD 0)):=by kernel_rfl):TG B W QP x g K (fun s h=>bw (gw g) (s.tm ((km (uo x) (gj g)).getD 0)) (nS B.P B.N (CW (z_ B x).pure W) mg QP (uo x) (gi g) C s h) (C (Bh B.N (uo x) (gi g) s) h)):=
 gx _ hr (Prod.ext (Prod.mk.inj e).1 (Prod.ext (Prod.mk.inj e).2 rfl))
theorem lo(f:KT)(e:(x,fun s h=>hJ (aw B.P B.N W B.pl (u0 x)) q QP s h)=(.loop (u0 x),f):=by kernel_rfl):TB B W QP x q f:=by
 obtain⟨e,e2⟩:=Prod.mk.inj e
 unfold TB;rw[e];exact e2
variable {c:Cx}
def lk:List (Nat×List Nat)->Nat->List Nat
 |[],_=>[]
 |(i,l)::r,j=>if j=i then l else lk r j
def KR(L rs:List Nat)(el:List (Nat×List Nat))(c:Cx):cH
 |.normal,s,h=>c.N (L.map s.tm) h
 |.ret,s,h=>c.R (rs.map s.tm) h
 |.exit j,s,h=>c.E j ((lk el j).map s.tm) h
 |.goto _,_,_=>False
structure PQ (R:VK) (rs:List Nat) (el:List (Nat×List Nat)) (E:EK) (q:cH):Prop where
 r:∀s h,q .ret s h=R (rs.map s.tm) h
 e:∀j s h,q (.exit j) s h=E j ((lk el j).map s.tm) h
 g:∀l s h,q (.goto l) s h=False
variable {R:VK} {rs:List Nat} {el:List (Nat×List Nat)} {E:EK}
theorem PQ.b{i:Nat}{l:List Nat}{A:VK}(hr:PQ R rs el E q)(hA:q .normal=fun s h=>A (l.map s.tm) h:=by kernel_rfl):PQ R rs ((i,l)::el) (fun j vs h=>if j=i then A vs h else E j vs h) (df i q) where
 r:=hr.r
 g:=hr.g
 e:=fun j s h=>by
  simp only[df,lk]
  split
  ·rw[hA]
  ·exact hr.e j s h
theorem PQ.t(hr:PQ R rs el E q):PQ R rs el E (bJ K q):=⟨hr.r,hr.e,hr.g⟩
theorem PQ.n(hr:PQ R rs el E q):PQ R rs el E (qo q):=⟨hr.r,hr.e,fun _ _ _=>rfl⟩
theorem PQ.o{L:List Nat}:PQ c.R rs el c.E (KR L rs el c):=⟨fun _ _=>rfl,fun _ _ _=>rfl,fun _ _ _=>rfl⟩
theorem lp{fb:Cx->KT}(L rs:List Nat)(el:List (Nat×List Nat))(f:KT)(G:GK)(E:EK)
  (hq:PQ c.R rs el E q) (hb:∀c:Cx,TB B c.W (kP c.P) (u0 x) (KR L rs el c) (fb c)) (e:(x,(fun Kn=>fb ⟨c.W,c.R,Kn,E,c.P⟩),f)=(.loop (u0 x),(fun Kn s h=>G c.W c.R c.N c.E c.P Kn (L.map s.tm) h),fun s h=>dK (G c.W c.R c.N c.E c.P) (L.map s.tm) h):=by kernel_rfl):TB B c.W (kP c.P) x q f:=by
 obtain⟨e1,e3⟩:=Prod.mk.inj e
 obtain⟨e2,e4⟩:=Prod.mk.inj e3
 subst e4
 unfold TB;rw[e1]
 funext s h
 show hJ (aw B.P B.N c.W B.pl (u0 x)) q (kP c.P) s h=_
 refine Tj (L:=fun tm=>L.map tm) (G:=G c.W c.R c.N c.E c.P) (fun Kn KQ hK s h=>?_) s h
 have hqq:bJ KQ q=KR L rs el ⟨c.W,c.R,Kn,E,c.P⟩:=by
  funext z s h
  cases z with
  |normal=>exact hK s h
  |ret=>exact hq.r s h
  |exit j=>exact hq.e j s h
  |goto l=>exact hq.g l s h
 rw[hqq]
 have h1:=congrFun (congrFun (hb ⟨c.W,c.R,Kn,E,c.P⟩) s) h
 have h2:=congrFun (congrFun (congrFun e2 Kn) s) h
 exact h1.trans h2
end
theorem fin{P:Program}{f n:Nat}{L:List Nat}{fn:Func}{rs:List ResultVar}{pl:dj}{args:List AV}{h:AH}{M:Nat->Prop}{R:AE->AH->Prop}(F:Cx->KT)(hm:P.follows .mixedOrders=true)(hf:P.funcs[f]?=some fn)
  (ht:∀c:Cx,TB ⟨P,n,pl⟩ c.W (kP c.P) (fn.body.getD .skip) (KR L L [] c) (F c))
  (hp:F ⟨fun id=>M id\/h.next<=id,aJ P rs R,aJ P rs R,fun _ _ _=>False,fun v h=>R (.bW v) h⟩ (s0 args) h) (e:(ls P pl (fn.body.getD .skip)&&tG (fn.body.getD .skip)&&Nat.ble args.length n,fn.body,fn.ntmps,fn.results.toList,rs.map tB)=(true,some (fn.body.getD .skip),n,rs,L):=by kernel_rfl):aA P f args h M R:=by
 obtain⟨e1,e⟩:=Prod.mk.inj e
 obtain⟨e2,e⟩:=Prod.mk.inj e
 obtain⟨e3,e⟩:=Prod.mk.inj e
 obtain⟨e4,e5⟩:=Prod.mk.inj e
 simp only[yC]at e1
 obtain⟨⟨o1,o2⟩,o3⟩:=e1
 subst e3
 refine yw hm hf e2 (Nat.le_of_ble_eq_true o3) o1 ?_
 rw[e4]
 refine VH (q:=KR L L [] ⟨fun id=>M id\/h.next<=id,aJ P rs R,aJ P rs R,fun _ _ _=>False,fun v h=>R (.bW v) h⟩) o2 (fun s h=>?_) (fun s h=>?_) (fun _ _ _ h=>h) (fun _ _ _ h=>h) rfl ?_
 ·show aJ P rs R (L.map s.tm) h=_
  rw[<-e5,List.map_map];rfl
 ·show aJ P rs R (L.map s.tm) h=_
  rw[<-e5,List.map_map];rfl
 ·have:=congrFun (congrFun (ht ⟨fun id=>M id\/h.next<=id,aJ P rs R,aJ P rs R,fun _ _ _=>False,fun v h=>R (.bW v) h⟩) (s0 args)) h
  exact Eq.mpr this hp
theorem kb{P:Program}{f n:Nat}{fn:Func}{rs:List ResultVar}{pl:dj}{args:List AV}{h:AH}{M:Nat->Prop}{R:AE->AH->Prop}(F:OK)(hm:P.follows .mixedOrders=true)(hf:P.funcs[f]?=some fn)
  (ht:∀W Q QP,TB ⟨P,n,pl⟩ W QP (fn.body.getD .skip) Q (F W Q QP))
  (hp:F (fun id=>M id\/h.next<=id) (bQ P rs R) (aW R) (s0 args) h) (e:(ls P pl (fn.body.getD .skip)&&Nat.ble args.length n,fn.body,fn.ntmps,fn.results.toList)=(true,some (fn.body.getD .skip),n,rs):=by kernel_rfl):aA P f args h M R:=by
 obtain⟨e1,e⟩:=Prod.mk.inj e
 obtain⟨e2,e⟩:=Prod.mk.inj e
 obtain⟨e3,e4⟩:=Prod.mk.inj e
 simp only[yC]at e1
 obtain⟨o1,o3⟩:=e1
 subst e3
 refine yw hm hf e2 (Nat.le_of_ble_eq_true o3) o1 ?_
 rw[e4]
 exact Eq.mpr (congrFun (congrFun (ht _ _ _) (s0 args)) h) hp
abbrev N0:=WK->VK->VK->EK->PK->AH->Prop
def a0(n:N0)(c:Cx):KT:=fun _ h=>n c.W c.R c.N c.E c.P h
abbrev N1:=WK->VK->VK->EK->PK->AV->AH->Prop
def a1(n:N1)(i0:Nat)(c:Cx):KT:=fun s h=>n c.W c.R c.N c.E c.P (s.tm i0) h
abbrev N2:=WK->VK->VK->EK->PK->AV->AV->AH->Prop
def a2(n:N2)(i0 i1:Nat)(c:Cx):KT:=fun s h=>n c.W c.R c.N c.E c.P (s.tm i0) (s.tm i1) h
abbrev N3:=WK->VK->VK->EK->PK->AV->AV->AV->AH->Prop
def a3(n:N3)(i0 i1 i2:Nat)(c:Cx):KT:=fun s h=>n c.W c.R c.N c.E c.P (s.tm i0) (s.tm i1) (s.tm i2) h
abbrev N4:=WK->VK->VK->EK->PK->AV->AV->AV->AV->AH->Prop
def a4(n:N4)(i0 i1 i2 i3:Nat)(c:Cx):KT:=fun s h=>n c.W c.R c.N c.E c.P (s.tm i0) (s.tm i1) (s.tm i2) (s.tm i3) h
abbrev N5:=WK->VK->VK->EK->PK->AV->AV->AV->AV->AV->AH->Prop
def a5(n:N5)(i0 i1 i2 i3 i4:Nat)(c:Cx):KT:=fun s h=>n c.W c.R c.N c.E c.P (s.tm i0) (s.tm i1) (s.tm i2) (s.tm i3) (s.tm i4) h
abbrev N6:=WK->VK->VK->EK->PK->AV->AV->AV->AV->AV->AV->AH->Prop
def a6(n:N6)(i0 i1 i2 i3 i4 i5:Nat)(c:Cx):KT:=fun s h=>n c.W c.R c.N c.E c.P (s.tm i0) (s.tm i1) (s.tm i2) (s.tm i3) (s.tm i4) (s.tm i5) h
abbrev N7:=WK->VK->VK->EK->PK->AV->AV->AV->AV->AV->AV->AV->AH->Prop
def a7(n:N7)(i0 i1 i2 i3 i4 i5 i6:Nat)(c:Cx):KT:=fun s h=>n c.W c.R c.N c.E c.P (s.tm i0) (s.tm i1) (s.tm i2) (s.tm i3) (s.tm i4) (s.tm i5) (s.tm i6) h
abbrev N8:=WK->VK->VK->EK->PK->AV->AV->AV->AV->AV->AV->AV->AV->AH->Prop
def a8(n:N8)(i0 i1 i2 i3 i4 i5 i6 i7:Nat)(c:Cx):KT:=fun s h=>n c.W c.R c.N c.E c.P (s.tm i0) (s.tm i1) (s.tm i2) (s.tm i3) (s.tm i4) (s.tm i5) (s.tm i6) (s.tm i7) h
abbrev N9:=WK->VK->VK->EK->PK->AV->AV->AV->AV->AV->AV->AV->AV->AV->AH->Prop
def a9(n:N9)(i0 i1 i2 i3 i4 i5 i6 i7 i8:Nat)(c:Cx):KT:=fun s h=>n c.W c.R c.N c.E c.P (s.tm i0) (s.tm i1) (s.tm i2) (s.tm i3) (s.tm i4) (s.tm i5) (s.tm i6) (s.tm i7) (s.tm i8) h
abbrev ru:=WK->VK->VK->EK->PK->AV->AV->AV->AV->AV->AV->AV->AV->AV->AV->AH->Prop
def rY(n:ru)(i0 i1 i2 i3 i4 i5 i6 i7 i8 i9:Nat)(c:Cx):KT:=fun s h=>n c.W c.R c.N c.E c.P (s.tm i0) (s.tm i1) (s.tm i2) (s.tm i3) (s.tm i4) (s.tm i5) (s.tm i6) (s.tm i7) (s.tm i8) (s.tm i9) h
abbrev Ek:=WK->VK->VK->EK->PK->AV->AV->AV->AV->AV->AV->AV->AV->AV->AV->AV->AH->Prop
def G4(n:Ek)(i0 i1 i2 i3 i4 i5 i6 i7 i8 i9 i10:Nat)(c:Cx):KT:=fun s h=>n c.W c.R c.N c.E c.P (s.tm i0) (s.tm i1) (s.tm i2) (s.tm i3) (s.tm i4) (s.tm i5) (s.tm i6) (s.tm i7) (s.tm i8) (s.tm i9) (s.tm i10) h
abbrev V7:=WK->VK->VK->EK->PK->AV->AV->AV->AV->AV->AV->AV->AV->AV->AV->AV->AV->AH->Prop
def a12(n:V7)(i0 i1 i2 i3 i4 i5 i6 i7 i8 i9 i10 i11:Nat)(c:Cx):KT:=fun s h=>n c.W c.R c.N c.E c.P (s.tm i0) (s.tm i1) (s.tm i2) (s.tm i3) (s.tm i4) (s.tm i5) (s.tm i6) (s.tm i7) (s.tm i8) (s.tm i9) (s.tm i10) (s.tm i11) h
end
end Go.Ab
