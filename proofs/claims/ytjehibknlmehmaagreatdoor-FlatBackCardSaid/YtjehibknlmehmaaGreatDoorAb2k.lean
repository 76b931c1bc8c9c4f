/- Regions, code and calls over the table are sound; short ways to use them; bodies told straight; maps; slices that hold lists. No condition. -/
import Derived.LoopN
import Derived.Scope
import Derived.Test.YtjehibknlmehmaaGreatDoorAb1k
set_option maxRecDepth 100000
namespace Go.Ab
section
variable {P:Program} {E:Env}
def mK(P:Program)(pu:List Nat)(ops:Array Oper)(B:List Nat)(listed:Array Bool)(x:Nat×Bool):Bool:=
 match ops[x.1]? with
 |none=>false
 |some oi=>
  if su oi.op then
   (Region.ready .any ops listed).contains x.1 &&
   (List.range ops.size).all fun j=>j==x.1||listed.getD j true||(B.getD j 0).testBit x.1 ||
    (match ops[j]? with |some oj=>oi.apart ops oj&&(!mS P oi.op||su oj.op||(match x.2 with |true=>true |false=>Fj oj.op||pu.contains j)) |none=>true)
  else Region.ready .any ops listed==[x.1]
def qR(P:Program)(pu:List Nat)(ops:Array Oper)(B:List Nat):List (Nat×Bool)->Array Bool->Bool
 |[],_=>true
 |x::rest,listed=>mK P pu ops B listed x&&qR P pu ops B rest (listed.setIfInBounds x.1 true)
def fW(order:List (Nat×Bool))(listed:Array Bool):Array Bool:=order.foldl (fun l x=>l.setIfInBounds x.1 true) listed
def kW(ops:Array Oper)(j:Nat):Option Nat:=(ops[j]?).bind (·.dst)
def nc(ops:Array Oper)(g:Option (Nat×Bool)×List (Nat×Bool)):Bool:=
 g.2.all fun x=>match ops[x.1]? with
  |some o=>o.guard==g.1&&(match g.1 with |none=>true |some (j,_)=>(match kW ops j with |some d=>o.dst != some d |none=>false))
  |none=>false
inductive Way where
 |mk (path:List (Nat×Bool)) (next:List Way)
def Way.path:Way->List (Nat×Bool)
 |.mk p _=>p
mutual
def Way.Ea:Way->List (Nat×Bool)
 |.mk p ws=>p++nZ ws
def nZ:List Way->List (Nat×Bool)
 |[]=>[]
 |w::r=>w.Ea++nZ r
end
structure th where
 fI:List (Option (Nat×Bool)×List (Nat×Bool))
 held:Bool
 alts:List Way
 pure:List Nat
def iB(p:th):List Nat:=((p.fI.flatMap (·.2)++nZ p.alts).filter (·.2)).map (·.1)
def CC(B hl:List Nat)(j i:Nat):Bool:=hl.contains i&&!(B.getD j 0).testBit i
def AZ(ops:Array Oper)(j:Nat):Bool:=match ops[j]? with |some o=>su o.op |none=>false
def vh(ops:Array Oper)(C:Nat->Nat->Bool)(order:List (Nat×Bool))(k i:Nat):Bool:=(order.take k).all fun x=>AZ ops x.1||C x.1 i
def uj(ops:Array Oper)(hl:List Nat)(C:Nat->Nat->Bool)(order:List (Nat×Bool)):Bool:=
 (List.range order.length).all fun k=>match order[k]? with
  |some x=>(!x.2||vh ops C order k x.1)&&(AZ ops x.1||hl.all fun i=>!C x.1 i||vh ops C order k i)
  |none=>false
def jJ(ws:List Way):List Nat:=ws.map fun w=>(w.path.head?.map (·.1)).getD 0
mutual
def xE(P:Program)(pu:List Nat)(ops:Array Oper)(B hl:List Nat):Way->List (Nat×Bool)->Array Bool->Bool
 |.mk path ws,order,listed=>(match path with
   |[]=>false
   |x::rest=>(match ops[x.1]? with |some o=>!su o.op |none=>false)&&qR P pu ops B rest (listed.setIfInBounds x.1 true)) &&
   nc ops (none,path)&&Nat.ble (order.length+path.length) ops.size&&uj ops hl (CC B hl) (order++path) &&
   Region.ready .any ops (fW path listed)==jJ ws&&(!ws.isEmpty||order.length+path.length==ops.size)&&pS P pu ops B hl ws (order++path) (fW path listed)
def pS(P:Program)(pu:List Nat)(ops:Array Oper)(B hl:List Nat):List Way->List (Nat×Bool)->Array Bool->Bool
 |[],_,_=>true
 |w::r,order,listed=>xE P pu ops B hl w order listed&&pS P pu ops B hl r order listed
end
def E4(P:Program)(ops:Array Oper)(draw:Bool)(p:th):Bool:=
 let order:=p.fI.flatMap (·.2)
 p.fI.all (nc ops) &&
 match draw with
 |false=>order==(List.range ops.size).map (fun i=>(i,false))&&p.alts.isEmpty
 |true=>
  let B:=ii .any ops
  let listed:=fW order (Array.replicate ops.size false)
  qR P p.pure ops B order (Array.replicate ops.size false)&&uj ops (iB p) (CC B (iB p)) order&&Region.noSelect ops&&Region.ready .any ops listed==jJ p.alts &&
   (if p.alts.isEmpty then order.length==ops.size else pS P p.pure ops B (iB p) p.alts order listed)
abbrev dz:=List (Nat×th)
def rk:dz->Nat->Option th
 |[],_=>none
 |x::r,id=>if x.1=id then some x.2 else rk r id
def iL(n:Nat):List (Nat×Bool):=(List.range n).map fun i=>(i,false)
def zy(P:Program)(pl:dz)(id:Nat)(ops:Array Oper)(draw:Bool):Bool:=
 match rk pl id with
 |some p=>E4 P ops draw p
 |none=>!draw&&nc ops (none,iL ops.size)
def kl(P:Program)(pl:dz):Code->Bool
 |.region id ops draw=>zy P pl id ops draw
 |.seq a b |.cond _ a b=>kl P pl a&&kl P pl b
 |.block _ c |.loop c |.scope c=>kl P pl c
 |_=>true
def cA(held:Bool)(Hd:Nat->Prop)(d:Option Nat)(k:Prop):Prop:=
 match held with
 |false=>k
 |true=>(match d with |some id=>Hd id |none=>False)/\k
def qO(P:Program)(N:Nat)(W Hd:Nat->Prop)(QP:List eT->AV->AH->Prop)(held:Bool)(o:Oper)(K:St->AH->Prop)(s:St)(h:AH):Prop:=
 match su o.op with
 |true=>qOp P o.op (lx s) h fun v d=>cA held Hd d (K (s.put N o.dst v) h)
 |false=>tO P W o.op (lx s) s.ds h (fun v nI h'=>K (({ s with ds:=nI }:St).put N o.dst v) h') (QP s.ds)
def mX(P:Program)(N:Nat)(W:Nat->Nat->Prop)(Hd:Nat->Nat->Prop)(QP:List eT->AV->AH->Prop)(ops:Array Oper):List (Nat×Bool)->(St->AH->Prop)->St->AH->Prop
 |[],K,s,h=>K s h
 |x::rest,K,s,h=>match ops[x.1]? with
  |some o=>qO P N (W x.1) (Hd x.1) QP x.2 o (mX P N W Hd QP ops rest K) s h
  |none=>False
def CN(N:Nat)(ops:Array Oper):List (Nat×Bool)->St->St
 |[],s=>s
 |x::rest,s=>CN N ops rest (s.put N (kW ops x.1) aa)
def aM(x:AV)(a b:Prop):Prop:=
 match x with
 |.sc (.bool t)=>(t=true->a)/\(t=false->b)
 |_=>False
def bE(want:Bool)(x:AV)(a b:Prop):Prop:=
 match x with
 |.sc (.bool t)=>(t=want->a)/\(t=(!want)->b)
 |.sc (.tuple _)=>b
 |_=>False
def kL(P:Program)(N:Nat)(W:Nat->Nat->Prop)(Hd:Nat->Nat->Prop)(QP:List eT->AV->AH->Prop)(ops:Array Oper):List (Option (Nat×Bool)×List (Nat×Bool))->(St->AH->Prop)->St->AH->Prop
 |[],K,s,h=>K s h
 |(none,is)::rest,K,s,h=>mX P N W Hd QP ops is (kL P N W Hd QP ops rest K) s h
 |(some (j,want),is)::rest,K,s,h=>match kW ops j with
  |some d=>bE want (s.tm d) (mX P N W Hd QP ops is (kL P N W Hd QP ops rest K) s h) (kL P N W Hd QP ops rest K (CN N ops is s) h)
  |none=>False
def lO:Nat->Nat->Prop:=fun _ _=>False
mutual
def wZ(P:Program)(N:Nat)(W:Nat->Nat->Prop)(Hd:Nat->Nat->Prop)(QP:List eT->AV->AH->Prop)(ops:Array Oper):Way->(St->AH->Prop)->St->AH->Prop
 |.mk path ws,K,s,h=>mX P N W Hd QP ops path (match ws with
   |[]=>K
   |_::_=>fun s h=>nn P N W Hd QP ops ws K s h) s h
def nn(P:Program)(N:Nat)(W:Nat->Nat->Prop)(Hd:Nat->Nat->Prop)(QP:List eT->AV->AH->Prop)(ops:Array Oper):List Way->(St->AH->Prop)->St->AH->Prop
 |[],_,_,_=>True
 |w::r,K,s,h=>wZ P N W Hd QP ops w K s h/\nn P N W Hd QP ops r K s h
end
def sH(P:Program)(N:Nat)(W:Nat->Nat->Prop)(Hd:Nat->Nat->Prop)(QP:List eT->AV->AH->Prop)(ops:Array Oper)(p:th)(K:St->AH->Prop)(s:St)(h:AH):Prop:=
 match p.alts with
 |[]=>kL P N W Hd QP ops p.fI K s h
 |alts=>kL P N W Hd QP ops p.fI (nn P N W Hd QP ops alts K) s h
abbrev yn:Nat->Prop:=fun _=>False
def CS(pu:List Nat)(W:Nat->Nat->Prop)(j:Nat):Nat->Prop:=match pu.contains j with
 |true=>yn
 |false=>W j
abbrev jG(W:Nat->Prop)(Hd:Nat->Nat)(l:List Nat):Nat->Prop:=fun id=>W id/\∀i∈l,id≠Hd i
def WE(W:Nat->Prop)(Hd:Nat->Nat):List Nat->Nat->Prop
 |[]=>W
 |i::l=>jG W Hd (i::l)
theorem Ik{W:Nat->Prop}{Hd:Nat->Nat}:∀{l:List Nat}{id:Nat},WE W Hd l id->W id/\∀i∈l,id≠Hd i
 |[],_,h=>⟨h,fun _ h=>by simp at h⟩
 |_::_,_,h=>h
def acx(W:Nat->Prop)(Hd:Nat->Nat)(B hl:List Nat)(j:Nat):Nat->Prop:=WE W Hd (hl.filter fun i=>!(B.getD j 0).testBit i)
def kF(P:Program)(N:Nat)(W:Nat->Prop)(QP:List eT->AV->AH->Prop)(pl:dz)(id:Nat)(ops:Array Oper)(K:St->AH->Prop)(s:St)(h:AH):Prop:=
 match rk pl id with
 |none=>mX P N (fun _=>W) lO QP ops (iL ops.size) K s h
 |some p=>match p.held with
  |false=>sH P N (CS p.pure fun _=>W) lO QP ops p K s h
  |true=>∃Hd:Nat->Nat,(∀i∈iB p,h.obj (Hd i)≠none)/\sH P N (CS p.pure (acx W Hd (ii .any ops) (iB p))) (fun i id=>id=Hd i) QP ops p K s h
def jU(Hd:Nat->Prop)(E0:Env)(h0:AH)(w0 w:World):Prop:=∀id B,Hd id->h0.obj id≠none->E0 id=some B->w.heap[B.b]?=w0.heap[B.b]?
def TT(P:Program)(S:World->Prop)(o:Oper)(held:Bool)(w0:World):World->Prop:=fun w=>mS P o.op=true->if held then S w else fP w0 w
structure MU (P:Program) (ops:Array Oper) (Q:Exit->Act->World->Prop) (C:Nat->Nat->Bool) (S:Nat->World->Prop) (pu:Nat->Bool) (order:List (Nat×Bool)) (k1:Nat) (D:Nat->Act->World->Prop):Prop where
 quiet:∀k i held o v a w,k1<=k->order[k]?=some (i,held)->ops[i]?=some o->su o.op=true->Yq P ops (TT P (S i) o held w) o v a->(held=true->S i w)->D (k+1) (a.put o.dst v) w->D k a w
 Ga:∀k i held o a w,k1<=k->order[k]?=some (i,held)->ops[i]?=some o->su o.op=false->wpOp P ops Q i (fun a' w'=>((∀l,C i l=true->S l w')/\(Fj o.op=true\/pu i=true->fP w w'))/\D (k+1) a' w') a w->D k a w
section
variable {N:Nat} {W:Nat->Prop} {QP:List eT->AV->AH->Prop} {ops:Array Oper} {Q:Exit->Act->World->Prop} {order:List (Nat×Bool)} {D:Nat->Act->World->Prop}
 {E0:Env} {h0:AH} {w0:World}
def Ws:Value->Option Bool
 |.bool b=>some b
 |_=>none
def xC(ops:Array Oper)(g:Option (Nat×Bool))(pO:Bool)(s:St):Prop:=
 match g with
 |none=>pO=true
 |some (j,want)=>∃d,kW ops j=some d/\(s.tm d=.sc (.bool (if pO then want else !want))\/pO=false/\∃l,s.tm d=.sc (.tuple l))
theorem CF{g:Option (Nat×Bool)}{pO:Bool}{s:St}{a:Act}{E:Env}(hg:xC ops g pO s)(ha:AR E N s a){o:Oper}(ho:o.guard=g):Region.wanted o (yielded ops a.tmps)=pO:=by
 unfold Region.wanted
 rw[ho]
 cases g with
 |none=>exact hg.symm
 |some g=>
  obtain⟨j,want⟩:=g
  obtain⟨d,hd,hs⟩:=hg
  have h1:=ha.tm d
  unfold kW at hd
  have hy:yielded ops a.tmps j=Ws (a.tmps.getD d undef):=by
   unfold yielded
   simp only[hd]
   rw[Array.getD_eq_getD_getElem?]
   show(match a.tmps[d]? with |some (.bool b)=>some b |_=>none)=_
   generalize a.tmps[d]?=y
   cases y with
   |none=>rfl
   |some v=>cases v<;>rfl
  show(yielded ops a.tmps j==some want)=pO
  rw[hy]
  rcases hs with hs |⟨aaG,l,hs⟩
  ·rw[hs]at h1
   have h2:a.tmps.getD d undef=.bool (if pO then want else !want):=by
    generalize a.tmps.getD d undef=v at h1
    cases h1;rfl
   rw[h2]
   cases pO<;>cases want<;>rfl
  ·rw[hs]at h1
   have h2:a.tmps.getD d undef=.tuple l:=by
    generalize a.tmps.getD d undef=v at h1
    cases h1;rfl
   rw[h2,aaG];rfl
def O8(ops:Array Oper)(g:Option (Nat×Bool))(dst:Option Nat):Prop:=∀j want d,g=some (j,want)->kW ops j=some d->dst≠some d
theorem xC.put{g:Option (Nat×Bool)}{pO:Bool}{s:St}(hg:xC ops g pO s){dst:Option Nat}(hd:O8 ops g dst)(v:AV)(ds:List eT) :
  xC ops g pO (({ s with ds:=ds }:St).put N dst v):=by
 cases g with
 |none=>exact hg
 |some g=>
  obtain⟨j,want⟩:=g
  obtain⟨d,h1,h2⟩:=hg
  refine⟨d,h1,?_⟩
  have h3:=hd j want d rfl h1
  have eB:∀(P:AV->Prop),P (s.tm d)->P (({ s with ds:=ds }:St).put N dst v |>.tm d):=by
   intro P hP
   cases dst with
   |none=>exact hP
   |some e=>
    simp only[St.put]
    split
    ·simp only[eP]
     rw[zW (fun h=>h3 (by rw[h]))]
     exact hP
    ·exact hP
  exact eB (fun x=>x=.sc (.bool (if pO then want else !want))\/pO=false/\∃l,x=.sc (.tuple l)) h2
theorem AR.nI{E:Env}{s:St}{a:Act}(h:AR E N s a):({ s with ds:=s.ds }:St)=s:=rfl
end
end
section
variable {P:Program} {N:Nat} {W:Nat->Prop} {Hd:Nat->Nat->Prop} {QP:List eT->AV->AH->Prop} {ops:Array Oper} {Q:Exit->Act->World->Prop} {order:List (Nat×Bool)} {D:Nat->Act->World->Prop}
 {E0:Env} {h0:AH} {w0:World}
structure IC (P:Program) (N:Nat) (ops:Array Oper) (hl:List Nat) (C:Nat->Nat->Bool) (pu:Nat->Bool) (order:List (Nat×Bool)) (W:Nat->Prop) (Wf:Nat->Nat->Prop) (Hd:Nat->Nat->Prop) (QP:List eT->AV->AH->Prop) (Q:Exit->Act->World->Prop) (E0:Env) (h0:AH) (w0:World):Prop where
 rel:Rel E0 h0 w0
 hd:∀i id,hl.contains i=true->Hd i id->h0.obj id≠none
 w:∀j i id,C j i=true->Hd i id->¬Wf j id
 wf:∀j id,Wf j id->W id
 pw:∀j id,pu j=true->¬Wf j id
 hc:∀j i,C j i=true->hl.contains i=true
 hh:∀(k:Nat)(x:Nat×Bool),order[k]?=some x->x.2=true->hl.contains x.1=true
 ord:uj ops hl C order=true
 b6:∀v E' h' w' u a ds,Step E0 h0 W w0 E' h' w'->VR E' v u->BU E' ds a.defers->QP ds v h'->Q (.panic [{ v:=u,recovered:=false }]) a w'
theorem uh{C:Nat->Nat->Bool}{k i:Nat}{x:Nat×Bool}(hk:order[k]?=some x):vh ops C order (k+1) i=(vh ops C order k i&&(AZ ops x.1||C x.1 i)):=by
 unfold vh
 rw[List.take_add_one,hk]
 simp
theorem B5{hl:List Nat}{C:Nat->Nat->Bool}(h:uj ops hl C order=true){k:Nat}{x:Nat×Bool}(hk:order[k]?=some x){o:Oper}(ho:ops[x.1]?=some o) :
  (x.2=true->vh ops C order k x.1=true)/\(su o.op=false->∀i,hl.contains i=true->C x.1 i=true->vh ops C order k i=true):=by
 unfold uj at h
 rw[List.all_eq_true]at h
 have:=h k (List.mem_range.2 (zM.1 hk).1)
 rw[hk]at this
 simp only[yC,Bool.or_eq_true,Bool.not_eq_true',List.all_eq_true]at this
 refine⟨fun hx=>?_,fun hq i hi hc=>?_⟩
 ·rcases this.1 with h1 |h1
  ·rw[hx]at h1;cases h1
  ·exact h1
 ·rcases this.2 with h1 |h1
  ·unfold AZ at h1;rw[ho]at h1;simp only at h1;rw[hq]at h1;cases h1
  ·rcases h1 i (by simpa using hi) with h2 |h2
   ·rw[hc]at h2;cases h2
   ·exact h2
def HI(ops:Array Oper)(hl:List Nat)(C:Nat->Nat->Bool)(order:List (Nat×Bool))(Hd:Nat->Nat->Prop)(E0:Env)(h0:AH)(w0:World)(k:Nat)(h:AH)(w:World):Prop:=
 ∀i,hl.contains i=true->vh ops C order k i=true->∀id,Hd i id->h.obj id=h0.obj id/\∀B,E0 id=some B->w.heap[B.b]?=w0.heap[B.b]?
theorem HI.start{hl:List Nat}{C:Nat->Nat->Bool}{k:Nat}:HI ops hl C order Hd E0 h0 w0 k h0 w0:=fun _ _ _ _ _=>⟨rfl,fun _ _=>rfl⟩
theorem HI.next{hl:List Nat}{C:Nat->Nat->Bool}{k:Nat}{h:AH}{w:World}(hi:HI ops hl C order Hd E0 h0 w0 k h w){x:Nat×Bool}(hk:order[k]?=some x):HI ops hl C order Hd E0 h0 w0 (k+1) h w:=fun i h1 h2=>by
 rw[uh hk,yC]at h2
 exact hi i h1 h2.1
theorem HI.held{hl:List Nat}{C:Nat->Nat->Bool}{k:Nat}{h:AH}{w:World}(hi:HI ops hl C order Hd E0 h0 w0 k h w){i:Nat}(h1:hl.contains i=true)(h2:vh ops C order k i=true):jU (Hd i) E0 h0 w0 w:=fun id B h3 _ h5=>(hi i h1 h2 id h3).2 B h5
theorem HI.Ga{hl:List Nat}{C:Nat->Nat->Bool}{pu:Nat->Bool}{Wf:Nat->Nat->Prop}(cx:IC P N ops hl C pu order W Wf Hd QP Q E0 h0 w0){k:Nat}{E E':Env}{h h':AH}{w w':World}(hi:HI ops hl C order Hd E0 h0 w0 k h w)(hs:Step E0 h0 W w0 E h w){x:Nat×Bool}(hk:order[k]?=some x)(hq:AZ ops x.1=false)
  (h1:Step E h (Wf x.1) w E' h' w'):HI ops hl C order Hd E0 h0 w0 (k+1) h' w':=by
 intro i hc hp id hd
 rw[uh hk,yC,hq,Bool.false_or]at hp
 obtain⟨e1,e2⟩:=hi i hc hp.1 id hd
 have b7:=cx.hd i id hc hd
 have Zk:=cx.w x.1 i id hp.2 hd
 have Cj:h.obj id≠none:=by rw[e1];exact b7
 refine⟨by rw[h1.dr id (AH.K3 Cj) Zk,e1],fun B hB=>?_⟩
 have cO:=hs.env id B hB
 cases ho:h.obj id with
 |none=>exact absurd ho Cj
 |some o=>
  obtain⟨B2,Dx,hO⟩:=hs.rel.obj id o ho
  rw[cO]at Dx;cases Dx
  rw[<-e2 B hB]
  refine h1.frame B.b hO.lt ?_
  intro pV B' o' iW dy aaT hE' p_
  rcases hs.rel.inj pV id o' o B' B dy ho hE' cO p_ with this |this
  ·subst this
   exact Zk iW
  ·rw[aaT]at this;cases this.1
theorem RH{op:Op}{ρ:Operand->AV}{h:AH}{K:AV->Option Nat->Prop}(hp:qOp P op ρ h K):qOp P op ρ h (fun v d=>K v d/\∀id,d=some id->h.obj id≠none):=by
 cases hl:mS P op with
 |false=>exact qOp_mono (fun v d h1 h2=>⟨h2,fun id e=>by rw[h1 hl]at e;cases e⟩) hp
 |true=>
  cases op<;>simp only[mS,zE]at hl
  case convert s d x=>
   simp only[qOp,hl]at hp ⊢
   unfold zu at hp ⊢
   split at hp
   ·obtain⟨o,l,⟨h1,h2,h3⟩,h4⟩:=hp
    exact⟨o,l,⟨h1,h2,h3⟩,h4,fun id e=>by cases e;rw[h1];simp⟩
   ·exact hp.elim
  case lookup t m x ok=>
   simp only[qOp]at hp ⊢
   unfold fC at hp ⊢
   split at hp
   ·obtain⟨o,l,⟨h1,h2⟩,h3⟩:=hp
    exact⟨o,l,⟨h1,h2⟩,qJ (fun v hv=>⟨hv,fun id e=>by cases e;rw[h1];simp⟩) h3⟩
   ·exact qJ (fun v hv=>⟨hv,fun id e=>by cases e⟩) hp
   ·exact hp.elim
  simp only[qOp]at hp ⊢
  unfold al at hp ⊢
  split at hp
  ·obtain⟨o,c,⟨h1,h2,h3⟩,h4⟩:=hp
   exact⟨o,c,⟨h1,h2,h3⟩,h4,fun id e=>by cases e;rw[h1];simp⟩
  ·obtain⟨o,⟨h1,h2,h3⟩,h4⟩:=hp
   exact⟨o,⟨h1,h2,h3⟩,h4,fun id e=>by cases e;rw[h1];simp⟩
  ·exact hp.elim
theorem Jx{op:Op}(hA:Fj op=true){ρ:Operand->AV}{ds:List eT}{h:AH}{K:AV->List eT->AH->Prop}{KP:AV->AH->Prop}(hp:tO P W op ρ ds h K KP):tO P (fun _=>False) op ρ ds h K KP:=by
 cases op<;>simp only[Fj,zE]at hA<;>first |exact hp |(rename_i t r;cases r<;>first |exact hp |exact hp.elim)
theorem H9{E:Env}{w:World}{s:St}{a:Act}{h:AH}{K:AV->List eT->AH->Prop}{KP:AV->AH->Prop}(o:Oper)(hr:Rel E h w)(ha:AR E N s a)
  (hp:tO P W o.op (lx s) s.ds h K KP) {next:Act->World->Prop} {Q:Exit->Act->World->Prop}
  (hn:∀v nI E' h' w' a',Step E h W w E' h' w'->(Fj o.op=true\/(∀id,¬W id)->fP w w')->AR E' N (({ s with ds:=nI }:St).put N o.dst v) a'->K v nI h'->next a' w')
  (hq:∀v E' h' w' u,Step E h W w E' h' w'->VR E' v u->KP v h'->Q (.panic [{ v:=u,recovered:=false }]) a w'):o.wp P a w next Q:=by
 by_cases hA:Fj o.op=true
 ·refine Gb o hr ha (Jx hA hp) ?_ ?_
  ·intro v nI E' h' w' a' h1 h2 h3
   exact hn v nI E' h' w' a' ((Step.refl hr).trans hr h1 (fun id _ hm=>hm.elim)) (fun _ b hb=>h1.frame b hb fun _ _ _ hm=>hm.elim) h2 h3
  ·intro v E' h' w' u h1 h2 h3
   exact hq v E' h' w' u ((Step.refl hr).trans hr h1 (fun id _ hm=>hm.elim)) h2 h3
 ·exact Gb o hr ha hp (fun v nI E' h' w' a' h1 h2 h3=>hn v nI E' h' w' a' h1 (fun h=>h.elim (fun h=>absurd h hA) fun hn b hb=>h1.frame b hb fun id _ _ hm=>absurd hm (hn id)) h2 h3) hq
theorem BG{hl:List Nat}{C:Nat->Nat->Bool}{pu:Nat->Bool}{Wf:Nat->Nat->Prop}(cx:IC P N ops hl C pu order W Wf Hd QP Q E0 h0 w0){k1:Nat}(dv:MU P ops Q C (fun i=>jU (Hd i) E0 h0 w0) pu order k1 D)(g:Option (Nat×Bool)){K:St->AH->Prop} :
  ∀(is:List (Nat×Bool))(k:Nat)(s:St)(a:Act)(E:Env)(h:AH)(w:World),k1<=k->(∀m x,is[m]?=some x->order[k+m]?=some x)->nc ops (g,is)=true->xC ops g true s ->
   Step E0 h0 W w0 E h w->HI ops hl C order Hd E0 h0 w0 k h w->AR E N s a->mX P N Wf Hd QP ops is K s h ->
   (∀s' a' E' h' w',Step E0 h0 W w0 E' h' w'->HI ops hl C order Hd E0 h0 w0 (k+is.length) h' w'->AR E' N s' a'->K s' h'->D (k+is.length) a' w')->D k a w
 |[],k,s,a,E,h,w,_,_,_,_,hs,hI,ha,he,hK=>hK s a E h w hs hI ha he
 |x::is,k,s,a,E,h,w,pW,ho,hg,hi,hs,hI,ha,he,hK=>by
  obtain⟨i,held⟩:=x
  have hk:order[k]?=some (i,held):=by simpa using ho 0 (i,held) rfl
  simp only[mX]at he
  split at he
  ·rename_i o iA
   simp only[nc,List.all_cons,iA,yC]at hg
   obtain⟨⟨HR,pZ⟩,Qy⟩:=hg
   have FG:o.guard=g:=by simpa using HR
   have Jq:O8 ops g o.dst:=by
    intro j want d ll hd
    subst ll
    simp only[hd]at pZ
    simpa using pZ
   have uz:=CF hi ha FG
   have mj:∀m x,is[m]?=some x->order[k+1+m]?=some x:=fun m x hm=>by
    have:=ho (m+1) x (by simpa using hm)
    rw[show k+1+m=k+(m+1) from by omega];exact this
   have uA:=B5 cx.ord hk iA
   have QI:held=true->jU (Hd i) E0 h0 w0 w:=fun hp=>hI.held (cx.hh k _ hk hp) (uA.1 hp)
   have VU:=hI.next hk
   have ZK:∀s' a' E' h' w',Step E0 h0 W w0 E' h' w'->HI ops hl C order Hd E0 h0 w0 (k+1+is.length) h' w'->AR E' N s' a'->K s' h'->D (k+1+is.length) a' w':=fun s' a' E' h' w' h1 tI h2 h3=>by
    rw[show k+1+is.length=k+(is.length+1) from by omega]at tI ⊢
    exact hK s' a' E' h' w' h1 tI h2 h3
   unfold qO at he
   split at he
   ·rename_i hq
    have oN:=qOp_mono (K':=fun v d=>(mS P o.op=false->d=none)/\cA held (Hd i) d (mX P N Wf Hd QP ops is K (s.put N o.dst v) h)/\∀id,d=some id->h.obj id≠none) (fun v d h1 h2=>⟨h1,h2⟩) (RH he)
    obtain⟨av,u,d,hv,⟨Dt,nF,hd4⟩,hd3,fR⟩:=Kq o hs.rel ha oN
    have kz:mX P N Wf Hd QP ops is K (s.put N o.dst av) h:=by
     unfold cA at nF
     split at nF
     ·exact nF
     ·exact nF.2
    refine dv.quiet k i held o u a w pW hk iA hq (.inl ⟨uz,fun w' iW=>fR w' ?_⟩) QI ?_
    ·intro id B QC hB
     cases hl:mS P o.op with
     |false=>rw[Dt hl]at QC;cases QC
     |true=>
      cases held with
      |false=>
       have iW:fP w w':=by simpa using iW hl
       have kK:=hd4 id QC
       cases ho:h.obj id with
       |none=>exact absurd ho kK
       |some o2=>
        obtain⟨B2,Dx,LM⟩:=hs.rel.obj id o2 ho
        rw[hB]at Dx;cases Dx
        exact iW B.b LM.lt
      |true=>
       have hS:=QI rfl
       have iW:jU (Hd i) E0 h0 w0 w':=by simpa using iW hl
       simp only[cA,QC]at nF
       have Oa:=cx.hd i id (cx.hh k _ hk rfl) nF.1
       obtain⟨B0,fN⟩:=cx.rel.Wd Oa
       have:=hs.env id B0 fN
       rw[hB]at this;cases this
       rw[iW id B nF.1 Oa fN,hS id B nF.1 Oa fN]
    ·exact BG cx dv g is (k+1) _ _ E h w (by omega) mj Qy (by simpa using hi.put Jq av s.ds) hs VU (ha.put _ hv) kz ZK
   ·rename_i hq
    refine dv.Ga k i held o a w pW hk iA hq ?_
    unfold wpOp
    simp only[iA,uz,zV]
    have jt:su o.op=false:=by simpa using hq
    have oL:AZ ops i=false:=by unfold AZ;rw[iA];exact jt
    refine .inl (H9 o hs.rel ha he ?_ ?_)
    ·intro v nI E' h' w' a' h1 hA h2 h3
     have Lu:=hs.trans cx.rel h1 (fun id _ hm=>.inl (cx.wf i id hm))
     have LQ:=HI.Ga cx hI hs hk oL h1
     refine⟨⟨fun l hc=>?_,fun hh=>hA (hh.imp (fun h=>h) fun hp id hw=>cx.pw i id hp hw)⟩,BG cx dv g is (k+1) _ _ E' h' w' (by omega) mj Qy (hi.put Jq v nI) Lu LQ h2 h3 ZK⟩
     have mV:=cx.hc i l hc
     exact LQ.held mV (by rw[uh hk,uA.2 jt l mV hc,hc,Bool.or_true];rfl)
    ·intro v E' h' w' u h1 h2 h3
     exact cx.b6 v E' h' w' u a s.ds (hs.trans cx.rel h1 (fun id _ hm=>.inl (cx.wf i id hm))) h2 (ha.ds.mono h1.env) h3
  ·exact he.elim
theorem Kc{hl:List Nat}{C:Nat->Nat->Bool}{pu:Nat->Bool}{Wf:Nat->Nat->Prop}(cx:IC P N ops hl C pu order W Wf Hd QP Q E0 h0 w0){k1:Nat}(dv:MU P ops Q C (fun i=>jU (Hd i) E0 h0 w0) pu order k1 D)(g:Option (Nat×Bool)) :
  ∀(is:List (Nat×Bool))(k:Nat)(s:St)(a:Act)(E:Env)(h:AH)(w:World),k1<=k->(∀m x,is[m]?=some x->order[k+m]?=some x)->nc ops (g,is)=true->xC ops g false s ->
   Step E0 h0 W w0 E h w->HI ops hl C order Hd E0 h0 w0 k h w->AR E N s a ->
   (∀a',Step E0 h0 W w0 E h w->HI ops hl C order Hd E0 h0 w0 (k+is.length) h w->AR E N (CN N ops is s) a'->D (k+is.length) a' w)->D k a w
 |[],k,s,a,E,h,w,_,_,_,_,hs,hI,ha,hK=>hK a hs hI ha
 |x::is,k,s,a,E,h,w,pW,ho,hg,hi,hs,hI,ha,hK=>by
  obtain⟨i,held⟩:=x
  have hk:order[k]?=some (i,held):=by simpa using ho 0 (i,held) rfl
  have aaW:∃o,ops[i]?=some o:=by
   simp only[nc,List.all_cons,yC]at hg
   cases h:ops[i]? with
   |none=>rw[h]at hg;simp at hg
   |some o=>exact⟨o,rfl⟩
  obtain⟨o,iA⟩:=aaW
  simp only[nc,List.all_cons,iA,yC]at hg
  obtain⟨⟨HR,pZ⟩,Qy⟩:=hg
  have FG:o.guard=g:=by simpa using HR
  have Jq:O8 ops g o.dst:=by
   intro j want d ll hd
   subst ll
   simp only[hd]at pZ
   simpa using pZ
  have uz:=CF hi ha FG
  have mj:∀m x,is[m]?=some x->order[k+1+m]?=some x:=fun m x hm=>by
   have:=ho (m+1) x (by simpa using hm)
   rw[show k+1+m=k+(m+1) from by omega];exact this
  have uA:=B5 cx.ord hk iA
  have QI:held=true->jU (Hd i) E0 h0 w0 w:=fun hp=>hI.held (cx.hh k _ hk hp) (uA.1 hp)
  have VU:=hI.next hk
  have XC:kW ops i=o.dst:=by simp[kW,iA]
  have next:D (k+1) (a.put o.dst undef) w:=by
   refine Kc cx dv g is (k+1) (s.put N o.dst aa) _ E h w (by omega) mj Qy (by simpa using hi.put Jq aa s.ds) hs VU (ha.put _ (.sc _)) ?_
   intro a' mT LP FH
   rw[show k+1+is.length=k+(is.length+1) from by omega]at LP ⊢
   exact hK a' mT LP (by simp only[CN,XC];exact FH)
  by_cases hq:su o.op=true
  ·exact dv.quiet k i held o undef a w pW hk iA hq (.inr ⟨uz,rfl⟩) QI next
  ·refine dv.Ga k i held o a w pW hk iA (by simpa using hq) ?_
   unfold wpOp
   simp only[iA,uz,zE,if_false]
   exact⟨⟨fun l hc=>hI.held (cx.hc i l hc) (uA.2 (by simpa using hq) l (cx.hc i l hc) hc),fun _=>fP.refl⟩,next⟩
theorem BH{hl:List Nat}{C:Nat->Nat->Bool}{pu:Nat->Bool}{Wf:Nat->Nat->Prop}(cx:IC P N ops hl C pu order W Wf Hd QP Q E0 h0 w0){k1:Nat}(dv:MU P ops Q C (fun i=>jU (Hd i) E0 h0 w0) pu order k1 D){K:St->AH->Prop}
  (Vz:∀s' a' E' h' w',Step E0 h0 W w0 E' h' w'->HI ops hl C order Hd E0 h0 w0 order.length h' w'->AR E' N s' a'->K s' h'->D order.length a' w') :
  ∀(gs:List (Option (Nat×Bool)×List (Nat×Bool)))(k:Nat)(s:St)(a:Act)(E:Env)(h:AH)(w:World),k1<=k->(∀m,(gs.flatMap (·.2))[m]?=order[k+m]?)->k+(gs.flatMap (·.2)).length=order.length->gs.all (nc ops)=true ->
   Step E0 h0 W w0 E h w->HI ops hl C order Hd E0 h0 w0 k h w->AR E N s a->kL P N Wf Hd QP ops gs K s h->D k a w
 |[],k,s,a,E,h,w,_,ho,Ly,_,hs,hI,ha,he=>by
  have:k=order.length:=by simpa using Ly
  rw[this]at hI ⊢
  exact Vz s a E h w hs hI ha he
 |(g,is)::gs,k,s,a,E,h,w,pW,ho,Ly,hg,hs,hI,ha,he=>by
  simp only[List.flatMap_cons,List.length_append]at Ly
  simp only[List.all_cons,yC]at hg
  obtain⟨HR,pZ⟩:=hg
  have U9:∀m x,is[m]?=some x->order[k+m]?=some x:=by
   intro m x hm
   rw[<-ho m]
   simp only[List.flatMap_cons]
   rw[List.getElem?_append_left (zM.1 hm).1]
   exact hm
  have XE:∀m,(gs.flatMap (·.2))[m]?=order[k+is.length+m]?:=by
   intro m
   have:=ho (is.length+m)
   simp only[List.flatMap_cons]at this
   rw[List.getElem?_append_right (by omega),Nat.add_sub_cancel_left]at this
   rw[this,Nat.add_assoc]
  have rest:∀s' a' E' h' w',Step E0 h0 W w0 E' h' w'->HI ops hl C order Hd E0 h0 w0 (k+is.length) h' w'->AR E' N s' a'->kL P N Wf Hd QP ops gs K s' h'->D (k+is.length) a' w':=
   fun s' a' E' h' w' h1 tI h2 h3=>BH cx dv Vz gs (k+is.length) s' a' E' h' w' (by omega) XE (by omega) pZ h1 tI h2 h3
  have pO:xC ops g true s->mX P N Wf Hd QP ops is (kL P N Wf Hd QP ops gs K) s h->D k a w:=fun hi he=>BG cx dv g is k s a E h w pW U9 HR hi hs hI ha he rest
  have no:xC ops g false s->kL P N Wf Hd QP ops gs K (CN N ops is s) h->D k a w:=fun hi he=>Kc cx dv g is k s a E h w pW U9 HR hi hs hI ha fun a' mT LP FH=>rest _ a' E h w mT LP FH he
  cases g with
  |none=>exact pO rfl he
  |some g=>
   obtain⟨j,want⟩:=g
   simp only[kL]at he
   split at he
   ·rename_i d hd
    unfold bE at he
    split at he
    ·rename_i t ht
     by_cases hw:t=want
     ·exact pO ⟨d,hd,.inl (by simpa[<-hw] using ht)⟩ (he.1 hw)
     ·have iW:t=!want:=by cases t<;>cases want<;>simp_all
      exact no ⟨d,hd,.inl (by simpa[<-iW] using ht)⟩ (he.2 iW)
    ·rename_i l ht
     exact no ⟨d,hd,.inr ⟨rfl,l,ht⟩⟩ he
    ·exact he.elim
   ·exact he.elim
end
section
variable {P:Program} {N:Nat} {W:Nat->Prop} {QP:List eT->AV->AH->Prop} {ops:Array Oper} {Q:Exit->Act->World->Prop}
theorem drop_cons{order:List (Nat×Bool)}{k:Nat}{x:Nat×Bool}(hk:order[k]?=some x):order.drop k=x::order.drop (k+1):=by
 have aJ:=(zM.1 hk).1
 rw[List.drop_eq_getElem_cons aJ];congr 1
 rw[zJ aJ]at hk;exact Option.some.inj hk
theorem Mh{C:Nat->Nat->Bool}{S:Nat->World->Prop}{pu:Nat->Bool}(order:List (Nat×Bool)):MU P ops Q C S pu order 0 (fun k a w=>wpOps P ops Q ((order.drop k).map (·.1)) a w) where
 quiet k i held o v a w _ hk iA hq hy hS hD:=by
  show wpOps P ops Q ((order.drop k).map (·.1)) a w
  rw[drop_cons hk,List.map_cons,wpOps_cons]
  exact Yq.wpOp iA hy (fun _=>by split;exact hS ‹_›;exact fP.refl) hD
 Ga k i held o a w _ hk iA hq hw:=by
  show wpOps P ops Q ((order.drop k).map (·.1)) a w
  rw[drop_cons hk,List.map_cons,wpOps_cons]
  exact wpOp_mono (fun a' w' h=>h.2) hw
def bH(n:Nat)(order:List (Nat×Bool))(k:Nat):Array Bool:=fW (order.take k) (Array.replicate n false)
theorem qn{n:Nat}{order:List (Nat×Bool)}{k:Nat}{x:Nat×Bool}(hk:order[k]?=some x):bH n order (k+1)=(bH n order k).setIfInBounds x.1 true:=by
 unfold bH fW
 rw[List.take_add_one,hk]
 simp
theorem tZ{pu B:List Nat}:∀(order:List (Nat×Bool))(listed:Array Bool),qR P pu ops B order listed=true->∀k x,order[k]?=some x->mK P pu ops B (fW (order.take k) listed) x=true
 |[],listed,h,k,x,hk=>by simp at hk
 |y::order,listed,h,k,x,hk=>by
  simp only[qR,yC]at h
  cases k with
  |zero=>simp at hk;subst hk;simpa[fW] using h.1
  |succ k=>simpa[fW] using tZ order _ h.2 k x (by simpa using hk)
theorem wB{listed:Array Bool}{i:Nat}{pu B:List Nat}{x:Nat×Bool}(h:mK P pu ops B listed x=true)(hi:x.1=i):i∈Region.ready .any ops listed:=by
 subst hi
 unfold mK at h
 split at h
 ·cases h
 ·split at h
  ·simp only[yC,List.contains_iff_mem]at h;exact h.1
  ·simp only[beq_iff_eq]at h;rw[h];simp
theorem mZ{pu B:List Nat}{order:List (Nat×Bool)}{k1:Nat}(eA:∀k x,k1<=k->order[k]?=some x->mK P pu ops B (bH ops.size order k) x=true)(mV:gH .any ops (bH ops.size order k1)) :
  ∀m,gH .any ops (bH ops.size order (k1+m))
 |0=>mV
 |m+1=>by
  cases hk:order[k1+m]? with
  |none=>
   have:bH ops.size order (k1+(m+1))=bH ops.size order (k1+m):=by
    unfold bH;rw[<-Nat.add_assoc,List.take_add_one,hk];simp
   rw[this];exact mZ eA mV m
  |some x=>
   rw[<-Nat.add_assoc,qn hk]
   exact(mZ eA mV m).set (wB (eA _ x (by omega) hk) rfl)
theorem sZ(order:List (Nat×Bool)):gH .any ops (bH ops.size order 0):=by
 intro j o hj
 simp only[bH,fW,List.take_zero,List.foldl_nil]at hj
 rw[Array.getD_eq_getD_getElem?]at hj
 simp only[Array.getElem?_replicate]at hj
 split at hj<;>cases hj
theorem An{hl pu:List Nat}{S:Nat->World->Prop}(hSh:∀l w w',S l w->w'.heap=w.heap->S l w')(hQ:∀dst v c a w,Q (.panic c) (Act.put a dst v) w->Q (.panic c) a w){order:List (Nat×Bool)}{k1:Nat}
  (wK:Region.noSelect ops=true) (hh:∀(k:Nat)(x:Nat×Bool),order[k]?=some x->x.2=true->hl.contains x.1=true) (eA:∀k x,k1<=k->order[k]?=some x->mK P pu ops (ii .any ops) (bH ops.size order k) x=true) (mV:gH .any ops (bH ops.size order k1)) (hlen:order.length<=ops.size) :
  MU P ops Q (CC (ii .any ops) hl) S (fun i=>pu.contains i) order k1 (fun k a w=>lF P .any ops Q (CC (ii .any ops) hl) S (fun i=>pu.contains i) (ops.size-k) (bH ops.size order k) a w) where
 quiet k i held o v a w pW hk iA hq hy hS hD:=by
  have aJ:=(zM.1 hk).1
  have eA:=eA k _ pW hk
  have nk:=wB eA rfl
  have hn:ops.size-k=(ops.size-(k+1))+1:=by omega
  have abT:gH .any ops (bH ops.size order k):=by
   have:=mZ (P:=P) (pu:=pu) (ops:=ops) (B:=ii .any ops) (order:=order) (k1:=k1) (by assumption) mV (k-k1)
   rwa [show k1+(k-k1)=k from by omega]at this
  simp only[hn]
  refine L_ iA hq (Region.noSelect_spec wK) (fun c a w=>hQ _ _ c a w) _ _ a w abT ?_ nk hy (fun _=>by split;exact hS ‹_›;exact fP.refl) ?_
  ·intro j oj FB pY Qn Qr
   unfold mK at eA
   simp only[iA,hq,zV,yC,List.all_eq_true,List.mem_range]at eA
   have abI:j<ops.size:=(Array.getElem?_eq_some_iff.1 FB).1
   have h2:=eA.2 j abI
   simp only[FB,Bool.or_eq_true,beq_iff_eq]at h2
   rcases h2 with((h2 |h2) |h2) |h2
   ·exact absurd h2 pY
   ·rw[Qn]at h2;cases h2
   ·exact absurd (Mu h2) Qr
   ·simp only[yC,Bool.or_eq_true]at h2
    refine⟨h2.1,fun w1 w2 hT hR hl=>?_⟩
    have hT:=hT hl
    unfold RR at hR
    cases held with
    |true=>
     simp only[zV]at hT ⊢
     split at hR
     ·exact hSh i w1 w2 hT hR
     ·rename_i hn
      rcases h2.2 with(h3 |h3) |h3
      ·simp[hl]at h3
      ·exact absurd h3 hn
      ·refine hR.1 i ?_
       unfold CC
       rw[hh k _ hk rfl,Bool.true_and,Bool.not_eq_true']
       cases hb:((ii .any ops).getD j 0).testBit i with
       |false=>rfl
       |true=>exact absurd (Mu hb) Qr
    |false=>
     simp only[zE,if_false]at hT ⊢
     split at hR
     ·exact hT.trans (.of_heap hR)
     ·rename_i hn
      rcases h2.2 with(h3 |h3) |h3
      ·simp[hl]at h3
      ·exact absurd h3 hn
      ·exact hT.trans (hR.2 (by simpa using h3))
  ·rw[<-qn (x:=(i,held)) hk];exact hD
 Ga k i held o a w pW hk iA hq hw:=by
  have aJ:=(zM.1 hk).1
  have eA:=eA k _ pW hk
  have hn:ops.size-k=(ops.size-(k+1))+1:=by omega
  simp only[hn]
  unfold mK at eA
  simp only[iA,hq,zE,if_false,beq_iff_eq]at eA
  have Cg:Region.ready .any ops (bH ops.size order k)=[i]:=eA
  refine⟨fun h=>(by rw[Cg]at h;cases h),fun j hj=>?_⟩
  rw[Cg]at hj
  have:j=i:=by simpa using hj
  subst this
  refine wpOp_mono (fun a' w' h=>⟨fun o' dy=>?_,?_⟩) hw
  ·rw[iA]at dy;cases dy
   unfold RR;rw[zW (by simp[hq])];exact h.1
  ·rw[<-qn (x:=(j,held)) hk];exact h.2
theorem G3{draw:Bool}{p:th}(h:E4 P ops draw p=true) :
  p.fI.all (nc ops)=true/\(draw=false->p.fI.flatMap (·.2)=iL ops.size/\p.alts=[]) /\
  (draw=true->(qR P p.pure ops (ii .any ops) (p.fI.flatMap (·.2)) (Array.replicate ops.size false)=true/\uj ops (iB p) (CC (ii .any ops) (iB p)) (p.fI.flatMap (·.2))=true)/\Region.noSelect ops=true /\
   Region.ready .any ops (fW (p.fI.flatMap (·.2)) (Array.replicate ops.size false))=jJ p.alts /\
   (p.alts=[]->(p.fI.flatMap (·.2)).length=ops.size) /\
   (p.alts≠[]->pS P p.pure ops (ii .any ops) (iB p) p.alts (p.fI.flatMap (·.2)) (fW (p.fI.flatMap (·.2)) (Array.replicate ops.size false))=true)):=by
 unfold E4 at h
 simp only[yC]at h
 obtain⟨h0,h⟩:=h
 refine⟨h0,fun hd=>?_,fun hd=>?_⟩
 ·subst hd
  simp only[yC,beq_iff_eq,List.isEmpty_iff]at h
  exact h
 ·subst hd
  simp only[yC,beq_iff_eq]at h
  obtain⟨⟨⟨⟨h1,h5⟩,h2⟩,h3⟩,h4⟩:=h
  refine⟨⟨h1,h5⟩,h2,h3,fun he=>?_,fun b7=>?_⟩
  ·rw[zX (by simpa using he)]at h4;simpa using h4
  ·rw[zW (by simpa using b7)]at h4;exact h4
theorem Bq{p:th}{x:Nat×Bool}(hx:x∈p.fI.flatMap (·.2)\/x∈nZ p.alts)(h2:x.2=true):(iB p).contains x.1=true:=by
 rw[List.contains_iff_mem]
 unfold iB
 exact List.mem_map.2 ⟨x,List.mem_filter.2 ⟨List.mem_append.2 hx,h2⟩,rfl⟩
inductive AX where
 |normal
 |exit (id:Nat)
 |goto (l:Nat)
 |ret
def XR:AX->Exit->Prop
 |.normal,.normal=>True
 |.exit i,.exit j=>i=j
 |.goto i,.goto j=>i=j
 |.ret,.ret=>True
 |_,_=>False
abbrev ck:=AX->St->AH->Prop
abbrev bU:=List eT->AV->AH->Prop
def bL(K:St->AH->Prop)(Q:ck):ck
 |.normal,s,h=>K s h
 |x,s,h=>Q x s h
def eI(id:Nat)(Q:ck):ck
 |.exit j,s,h=>if j=id then Q .normal s h else Q (.exit j) s h
 |x,s,h=>Q x s h
def pN(F:ck->bU->St->AH->Prop):Nat->ck->bU->St->AH->Prop
 |0,_,_,_,_=>False
 |n+1,Q,QP,s,h=>F (bL (fun s h=>pN F n Q QP s h) Q) QP s h
def lz(F:ck->bU->St->AH->Prop)(Q:ck)(QP:bU)(s:St)(h:AH):Prop:=∃n,pN F n Q QP s h
def pe(Q:ck):ck
 |.goto _,_,_=>False
 |x,s,h=>Q x s h
def aw(P:Program)(N:Nat)(W:Nat->Prop)(pl:dz):Code->ck->bU->St->AH->Prop
 |.skip,Q,_,s,h=>Q .normal s h
 |.label _,Q,_,s,h=>Q .normal s h
 |.exit id,Q,_,s,h=>Q (.exit id) s h
 |.goto l,Q,_,s,h=>Q (.goto l) s h
 |.ret,Q,_,s,h=>Q .ret s h
 |.seq a b,Q,QP,s,h=>aw P N W pl a (bL (aw P N W pl b Q QP) Q) QP s h
 |.cond c a b,Q,QP,s,h=>aM (lx s c) (aw P N W pl a Q QP s h) (aw P N W pl b Q QP s h)
 |.block id c,Q,QP,s,h=>aw P N W pl c (eI id Q) QP s h
 |.loop c,Q,QP,s,h=>lz (aw P N W pl c) Q QP s h
 |.scope c,Q,QP,s,h=>aw P N W pl c (pe Q) QP s h
 |.region id ops _,Q,QP,s,h=>kF P N W QP pl id ops (Q .normal) s h
 |.rangeFunc ..,_,_,_,_=>False
 |.refuse _,_,_,_,_=>False
def CQ(E0:Env)(h0:AH)(W:Nat->Prop)(w0:World)(N:Nat)(Q:ck)(QP:bU):Exit->Act->World->Prop:=fun e a w=>
 (∃x E h s,XR x e/\Step E0 h0 W w0 E h w/\AR E N s a/\Q x s h) \/
 (∃v u E h ds,e=.panic [{ v:=u,recovered:=false }]/\Step E0 h0 W w0 E h w/\VR E v u/\BU E ds a.defers/\QP ds v h)
theorem CQ.trans{E0 E1:Env}{h0 h1:AH}{w0 w1:World}{Q:ck}{QP:bU}{e:Exit}{a:Act}{w:World}(hr:Rel E0 h0 w0)(hs:Step E0 h0 W w0 E1 h1 w1)(hc:CQ E1 h1 W w1 N Q QP e a w):CQ E0 h0 W w0 N Q QP e a w:=by
 rcases hc with⟨x,E,h,s,a1,a2,a3,a4⟩ |⟨v,u,E,h,ds,a1,a2,a3,a4⟩
 ·exact .inl ⟨x,E,h,s,a1,hs.trans hr a2 (fun _ _ hm=>.inl hm),a3,a4⟩
 ·exact .inr ⟨v,u,E,h,ds,a1,hs.trans hr a2 (fun _ _ hm=>.inl hm),a3,a4⟩
section
variable {hl pu:List Nat} {Wf:Nat->Nat->Prop} {Hd:Nat->Nat->Prop} {K:St->AH->Prop} {E:Env} {h:AH} {w0:World}
structure Es (P:Program) (N:Nat) (W:Nat->Prop) (QP:List eT->AV->AH->Prop) (ops:Array Oper) (Q:Exit->Act->World->Prop) (hl pu:List Nat) (Wf:Nat->Nat->Prop) (Hd:Nat->Nat->Prop) (K:St->AH->Prop) (E:Env) (h:AH) (w0:World):Prop where
 rel:Rel E h w0
 wf:∀i id,Wf i id->W id
 YD:Region.noSelect ops=true
 put:∀dst v c a' w',Q (.panic c) (Act.put a' dst v) w'->Q (.panic c) a' w'
 heap:∀(l:Nat)(w1 w2:World),jU (Hd l) E h w0 w1->w2.heap=w1.heap->jU (Hd l) E h w0 w2
 cx:∀ord:List (Nat×Bool),(∀(k:Nat)(x:Nat×Bool),ord[k]?=some x->x.2=true->hl.contains x.1=true)->uj ops hl (CC (ii .any ops) hl) ord=true->IC P N ops hl (CC (ii .any ops) hl) (fun i=>pu.contains i) ord W Wf Hd QP Q E h w0
 last:∀s' a' E' h' w',Step E h W w0 E' h' w'->AR E' N s' a'->K s' h'->Q .normal a' w'
mutual
theorem Tt(dc:Es P N W QP ops Q hl pu Wf Hd K E h w0):∀(wy:Way)(order:List (Nat×Bool)),xE P pu ops (ii .any ops) hl wy order (bH ops.size order order.length)=true ->
  (∀(k:Nat)(x:Nat×Bool),order[k]?=some x->x.2=true->hl.contains x.1=true)->(∀x∈wy.Ea,x.2=true->hl.contains x.1=true)->gH .any ops (bH ops.size order order.length) ->
  (∀i,i∈(wy.path.head?.map (·.1))->i∈Region.ready .any ops (bH ops.size order order.length)) ->
  ∀(s1:St)(a1:Act)(E1:Env)(h1:AH)(w1:World),Step E h W w0 E1 h1 w1->HI ops hl (CC (ii .any ops) hl) order Hd E h w0 order.length h1 w1->AR E1 N s1 a1->wZ P N Wf Hd QP ops wy K s1 h1 ->
  ∃i,wy.path.head?.map (·.1)=some i/\order.length<ops.size/\wpOp P ops Q i (fun a' w'=>(∀o,ops[i]?=some o->RR (CC (ii .any ops) hl) (fun l=>jU (Hd l) E h w0) (fun i=>pu.contains i) i o w1 w') /\
   lF P .any ops Q (CC (ii .any ops) hl) (fun l=>jU (Hd l) E h w0) (fun i=>pu.contains i) (ops.size-(order.length+1)) ((bH ops.size order order.length).setIfInBounds i true) a' w') a1 w1
 |.mk path ws,order,cA,wP,yJ,wS,Qp,s1,a1,E1,dP,w1,qx,tI,Bu,Bp=>by
  cases path with
  |nil=>simp[xE]at cA
  |cons x rest=>
  obtain⟨i,hd⟩:=x
  refine⟨i,rfl,?_⟩
  unfold xE at cA
  simp only[yC,Nat.ble_eq,beq_iff_eq]at cA
  obtain⟨⟨⟨⟨⟨⟨⟨hq,hso⟩,Bo⟩,Ly⟩,N_⟩,Zf⟩,abP⟩,hwo⟩:=cA
  simp only[List.length_cons]at Ly
  refine⟨by omega,?_⟩
  have Qw:∀(k:Nat)(x:Nat×Bool),(order++(i,hd)::rest)[k]?=some x->x.2=true->hl.contains x.1=true:=fun k x hk hx=>by
   rw[List.getElem?_append]at hk
   split at hk
   ·exact wP k x hk hx
   ·exact yJ x (by unfold Way.Ea;exact List.mem_append_left _ (zP hk)) hx
  have XH:i∈Region.ready .any ops (bH ops.size order order.length):=Qp i (by simp[Way.path])
  unfold wZ at Bp
  cases iA:ops[i]? with
  |none=>rw[iA]at hq;simp at hq
  |some o=>
   rw[iA]at hq
   have jt:su o.op=false:=by simpa using hq
   simp only[nc,List.all_cons,iA,yC]at Bo
   obtain⟨⟨FG,_⟩,Bo⟩:=Bo
   have FG:o.guard=none:=by simpa using FG
   have uz:Region.wanted o (yielded ops a1.tmps)=true:=by simp[Region.wanted,FG]
   simp only[mX,iA,qO,jt]at Bp
   unfold wpOp
   simp only[iA,uz,zV]
   have Ck:∀m x,rest[m]?=some x->(order++(i,hd)::rest)[order.length+1+m]?=some x:=by
    intro m x hm
    rw[List.getElem?_append_right (by omega),show order.length+1+m-order.length=m+1 from by omega];simpa using hm
   have FD:∀m,bH ops.size (order++(i,hd)::rest) (order.length+1+m)=fW (rest.take m) ((bH ops.size order order.length).setIfInBounds i true):=by
    intro m
    unfold bH fW
    rw[List.take_append,List.take_of_length_le (by omega),show order.length+1+m-order.length=m+1 from by omega]
    simp
   have YC:∀k x,order.length+1<=k->(order++(i,hd)::rest)[k]?=some x->mK P pu ops (ii .any ops) (bH ops.size (order++(i,hd)::rest) k) x=true:=by
    intro k x hk hx
    obtain⟨m,rfl⟩:∃m,k=order.length+1+m:=⟨k-(order.length+1),by omega⟩
    rw[FD]
    refine tZ rest _ hso m x ?_
    rw[List.getElem?_append_right (by omega),show order.length+1+m-order.length=m+1 from by omega]at hx
    simpa using hx
   have VI:gH .any ops (bH ops.size (order++(i,hd)::rest) (order.length+1)):=by
    have:=FD 0
    simp only[Nat.add_zero,List.take_zero]at this
    rw[this]
    exact wS.set XH
   have Jl:bH ops.size (order++(i,hd)::rest) (order++(i,hd)::rest).length=fW ((i,hd)::rest) (bH ops.size order order.length):=by
    rw[show(order++(i,hd)::rest).length=order.length+1+rest.length from by simp;omega,FD]
    simp[fW]
   have abS:gH .any ops (bH ops.size (order++(i,hd)::rest) (order++(i,hd)::rest).length):=by
    have:=mZ (P:=P) (pu:=pu) (ops:=ops) (B:=ii .any ops) (order:=order++(i,hd)::rest) (k1:=order.length+1) YC VI rest.length
    rwa [show order.length+1+rest.length=(order++(i,hd)::rest).length from by simp;omega]at this
   refine .inl (H9 o qx.rel Bu Bp ?_ ?_)
   ·intro v nI E' h' w' a' b1 bA b2 b3
    have Q1:=dc.cx _ Qw N_
    have vt:(order++(i,hd)::rest)[order.length]?=some (i,hd):=by rw[List.getElem?_append_right (zU _)];simp
    have oL:AZ ops i=false:=by unfold AZ;rw[iA];exact jt
    have hph:∀l,vh ops (CC (ii .any ops) hl) (order++(i,hd)::rest) order.length l=vh ops (CC (ii .any ops) hl) order order.length l:=by
     intro l;unfold vh;rw[List.take_append,List.take_of_length_le (zU _)];simp
    have abY:HI ops hl (CC (ii .any ops) hl) (order++(i,hd)::rest) Hd E h w0 order.length dP w1:=fun l hc hp=>tI l hc (by rw[<-hph];exact hp)
    have uA:=B5 N_ vt iA
    have Lu:=qx.trans dc.rel b1 (fun id _ hm=>.inl (dc.wf i id hm))
    have LQ:=HI.Ga Q1 abY qx vt oL b1
    have hHW:∀l,CC (ii .any ops) hl i l=true->jU (Hd l) E h w0 w':=by
     intro l hc
     have mV:=Q1.hc i l hc
     exact LQ.held mV (by rw[uh vt,uA.2 jt l mV hc,hc,Bool.or_true];rfl)
    refine⟨fun o' dy=>by cases dy;unfold RR;rw[zW (by simp[jt])];exact⟨hHW,fun hh=>bA (hh.imp (fun h=>h) fun hp id hw=>Q1.pw i id hp hw)⟩,?_⟩
    have:=BG Q1 (An (pu:=pu) dc.heap (fun dst v c a w hh=>dc.put dst v c a w hh) dc.YD Qw YC VI (by simp;omega)) none rest (order.length+1) _ a' E' h' w' (zU _) Ck Bo rfl Lu LQ b2 b3 (fun s2 a2 E2 h2 w2 c1 cI c2 c3=>by
     have XL:order.length+1+rest.length=(order++(i,hd)::rest).length:=by simp;omega
     rw[XL]at cI ⊢
     cases ws with
     |nil=>
      have hz:ops.size-(order++(i,hd)::rest).length=0:=by simp at abP ⊢;omega
      simp only[hz,lF]
      refine⟨?_,dc.last s2 a2 E2 h2 w2 c1 c2 c3⟩
      rw[Jl,Zf];rfl
     |cons wy2 ws2=>
      exact Hi dc (wy2::ws2) (order++(i,hd)::rest) (by rw[Jl];exact hwo) Qw (fun x hx h2=>yJ x (by unfold Way.Ea;exact List.mem_append_right _ hx) h2) abS (by rw[Jl];exact Zf) (by simp) s2 a2 E2 h2 w2 c1 cI c2 c3)
    have h0:=FD 0
    simp only[Nat.add_zero,List.take_zero]at h0
    rw[h0]at this
    exact this
   ·intro v E' h' w' u b1 b2 b3
    exact(dc.cx _ Qw N_).b6 v E' h' w' u a1 s1.ds (qx.trans dc.rel b1 (fun id _ hm=>.inl (dc.wf i id hm))) b2 (Bu.ds.mono b1.env) b3
termination_by wy=>SizeOf.sizeOf wy
theorem CE(dc:Es P N W QP ops Q hl pu Wf Hd K E h w0):∀(ws:List Way)(order:List (Nat×Bool)),pS P pu ops (ii .any ops) hl ws order (bH ops.size order order.length)=true ->
  (∀(k:Nat)(x:Nat×Bool),order[k]?=some x->x.2=true->hl.contains x.1=true)->(∀x∈nZ ws,x.2=true->hl.contains x.1=true)->gH .any ops (bH ops.size order order.length) ->
  (∀i∈jJ ws,i∈Region.ready .any ops (bH ops.size order order.length)) ->
  ∀(s1:St)(a1:Act)(E1:Env)(h1:AH)(w1:World),Step E h W w0 E1 h1 w1->HI ops hl (CC (ii .any ops) hl) order Hd E h w0 order.length h1 w1->AR E1 N s1 a1->nn P N Wf Hd QP ops ws K s1 h1 ->
  ∀i∈jJ ws,order.length<ops.size/\wpOp P ops Q i (fun a' w'=>(∀o,ops[i]?=some o->RR (CC (ii .any ops) hl) (fun l=>jU (Hd l) E h w0) (fun i=>pu.contains i) i o w1 w') /\
   lF P .any ops Q (CC (ii .any ops) hl) (fun l=>jU (Hd l) E h w0) (fun i=>pu.contains i) (ops.size-(order.length+1)) ((bH ops.size order order.length).setIfInBounds i true) a' w') a1 w1
 |[],_,_,_,_,_,_,_,_,_,_,_,_,_,_,_,i,hi=>by simp[jJ]at hi
 |wy::r,order,cA,wP,yJ,wS,Qp,s1,a1,E1,dP,w1,qx,tI,Bu,Bp,i,hi=>by
  unfold pS at cA
  rw[yC]at cA
  unfold nn at Bp
  have b7:wy.path≠[]:=by
   intro h0
   cases wy with
   |mk p ws=>simp only[Way.path]at h0;subst h0;simp[xE]at cA
  obtain⟨j,hj⟩:∃j,wy.path.head?.map (·.1)=some j:=by
   cases hp:wy.path with
   |nil=>exact absurd hp b7
   |cons x l=>exact⟨x.1,rfl⟩
  simp only[jJ,List.map_cons,List.mem_cons]at hi
  rcases hi with hi |hi
  ·rw[hj]at hi
   simp only[Option.getD_some]at hi
   subst hi
   obtain⟨i',h1,h2⟩:=Tt dc wy order cA.1 wP (fun x hx=>yJ x (by unfold nZ;exact List.mem_append_left _ hx)) wS (fun q hq=>Qp q (by rw[hj]at hq;simp only[Option.mem_def,zQ]at hq;subst hq;simp[jJ,hj])) s1 a1 E1 dP w1 qx tI Bu Bp.1
   rw[hj]at h1;cases h1
   exact h2
  ·exact CE dc r order cA.2 wP (fun x hx=>yJ x (by unfold nZ;exact List.mem_append_right _ hx)) wS (fun q hq=>Qp q (by simp only[jJ,List.map_cons,List.mem_cons];exact .inr hq)) s1 a1 E1 dP w1 qx tI Bu Bp.2 i hi
termination_by ws=>SizeOf.sizeOf ws
theorem Hi(dc:Es P N W QP ops Q hl pu Wf Hd K E h w0):∀(ws:List Way)(order:List (Nat×Bool)),pS P pu ops (ii .any ops) hl ws order (bH ops.size order order.length)=true ->
  (∀(k:Nat)(x:Nat×Bool),order[k]?=some x->x.2=true->hl.contains x.1=true)->(∀x∈nZ ws,x.2=true->hl.contains x.1=true)->gH .any ops (bH ops.size order order.length) ->
  Region.ready .any ops (bH ops.size order order.length)=jJ ws->ws≠[] ->
  ∀(s1:St)(a1:Act)(E1:Env)(h1:AH)(w1:World),Step E h W w0 E1 h1 w1->HI ops hl (CC (ii .any ops) hl) order Hd E h w0 order.length h1 w1->AR E1 N s1 a1->nn P N Wf Hd QP ops ws K s1 h1 ->
  lF P .any ops Q (CC (ii .any ops) hl) (fun l=>jU (Hd l) E h w0) (fun i=>pu.contains i) (ops.size-order.length) (bH ops.size order order.length) a1 w1
 |ws,order,cA,wP,yJ,wS,tE,b7,s1,a1,E1,dP,w1,qx,tI,Bu,Bp=>by
  have each:=CE dc ws order cA wP yJ wS (fun i hi=>by rw[tE];exact hi) s1 a1 E1 dP w1 qx tI Bu Bp
  have Vv:jJ ws≠[]:=fun h0=>b7 (List.map_eq_nil_iff.1 h0)
  have aJ:order.length<ops.size:=by
   cases hh:jJ ws with
   |nil=>exact absurd hh Vv
   |cons j l=>exact(each j (by rw[hh];simp)).1
  have hn:ops.size-order.length=(ops.size-(order.length+1))+1:=by omega
  simp only[hn]
  refine⟨fun h0=>absurd (by rw[<-tE];exact h0) Vv,fun i hi=>?_⟩
  rw[tE]at hi
  exact(each i hi).2
termination_by ws=>SizeOf.sizeOf ws+1
end
end
theorem IR{C:Nat->Nat->Bool}:uj ops [] C (iL ops.size)=true:=by
 unfold uj
 rw[List.all_eq_true]
 intro k hk
 have pX:k<ops.size:=by simpa[iL] using hk
 have:(iL ops.size)[k]?=some (k,false):=by simp[iL,pX]
 rw[this]
 simp
theorem JK(hm:P.follows .mixedOrders=true){pl:dz}{id:Nat}{draw:Bool}(jQ:zy P pl id ops draw=true){K:St->AH->Prop}{Q:ck}{s:St}{a:Act}{E:Env}{h:AH}{w:World}(ZL:∀s h,K s h->Q .normal s h)
  (hr:Rel E h w) (ha:AR E N s a) (hp:kF P N W QP pl id ops K s h):(Code.region id ops draw).wp P (CQ E h W w N Q QP) a w:=by
 have plain:∀(Wf:Nat->Nat->Prop)(Hd:Nat->Nat->Prop),draw=false->(∀i id,Wf i id->W id)->∀gs,gs.all (nc ops)=true->gs.flatMap (·.2)=iL ops.size->kL P N Wf Hd QP ops gs K s h->(Code.region id ops draw).wp P (CQ E h W w N Q QP) a w:=by
  intro Wf Hd hdr Lp gs hg jR oN
  subst hdr
  have cx:IC P N ops [] (fun _ _=>false) (fun _=>false) (iL ops.size) W Wf Hd QP (CQ E h W w N Q QP) E h w:=⟨hr,fun _ _ h=>by simp at h,fun _ _ _ h=>by simp at h,Lp,fun _ _ h=>by simp at h,fun _ _ h=>by simp at h,fun k x hk hx=>by
   have pX:k<ops.size:=by have:=(zM.1 hk).1;simpa[iL] using this
   simp[iL,pX]at hk
   subst hk
   simp at hx,IR,fun v E' h' w' u a ds h1 h2 h3 h4=>.inr ⟨v,u,E',h',ds,rfl,h1,h2,h3,h4⟩⟩
  have:=BH cx (Mh (iL ops.size)) (fun s' a' E' h' w' h1 _ h2 h3=>by
   simp only[List.drop_length,List.map_nil,wpOps]
   exact .inl ⟨.normal,E',h',s',trivial,h1,h2,ZL _ _ h3⟩) _ 0 s a E h w (zU _) (fun m=>by rw[jR];simp) (by rw[jR];simp) hg (Step.refl hr) HI.start ha oN
  refine wp_region ?_
  simpa[iL,Function.comp_def] using this
 unfold kF at hp
 unfold zy at jQ
 split at hp
 ·rename_i h0
  rw[h0]at jQ
  simp only[yC,Bool.not_eq_true']at jQ
  exact plain (fun _=>W) lO jQ.1 (fun _ _ h=>h) [(none,iL ops.size)] (by simpa using jQ.2) (by simp) (by simpa[kL] using hp)
 rename_i p h0
 rw[h0]at jQ
 simp only at jQ
 have main:∀(Wf:Nat->Nat->Prop)(Hd:Nat->Nat->Prop),(∀i id,(iB p).contains i=true->Hd i id->h.obj id≠none)->(∀j i id,CC (ii .any ops) (iB p) j i=true->Hd i id->¬Wf j id)->(∀i id,Wf i id->W id)->(∀j id,p.pure.contains j=true->¬Wf j id)->sH P N Wf Hd QP ops p K s h->(Code.region id ops draw).wp P (CQ E h W w N Q QP) a w:=by
  intro Wf Hd hHd hW Lp hpw he
  obtain⟨hg,U_,XP⟩:=G3 jQ
  cases draw with
  |false=>
   obtain⟨jR,kZ⟩:=U_ rfl
   exact plain Wf Hd rfl Lp p.fI hg jR (by unfold sH at he;rw[kZ]at he;exact he)
  |true=>
   obtain⟨⟨cA,hpo⟩,wK,tE,hlen,halt⟩:=XP rfl
   have wP:∀(k:Nat)(x:Nat×Bool),(p.fI.flatMap (·.2))[k]?=some x->x.2=true->(iB p).contains x.1=true:=fun k x hk hx=>Bq (.inl (zP hk)) hx
   have hhI:∀x∈nZ p.alts,x.2=true->(iB p).contains x.1=true:=fun x hx h2=>Bq (.inr hx) h2
   have wU:∀j i,CC (ii .any ops) (iB p) j i=true->(iB p).contains i=true:=fun j i hc=>by unfold CC at hc;simp only[yC]at hc;exact hc.1
   generalize iB p=hl at *
   generalize jR:p.fI.flatMap (·.2)=order at *
   have wL:Rel E h { w with drawn:=w.drawn+1 }:=hr.of_heap rfl
   have eA:Step E h W w E h { w with drawn:=w.drawn+1 }:=Step.drew hr rfl rfl rfl rfl
   have dc:Es P N W QP ops (CQ E h W w N Q QP) hl p.pure Wf Hd K E h { w with drawn:=w.drawn+1 }:={
    rel:=wL
    wf:=Lp
    YD:=wK
    put:=by
     intro dst v c a' w' hh
     rcases hh with⟨x,E',h',s',a1,_⟩ |⟨v',u,E',h',ds,a1,a2,a3,a4,a5⟩
     ·cases x<;>exact a1.elim
     ·refine .inr ⟨v',u,E',h',ds,a1,a2,a3,?_,a5⟩
      cases dst<;>exact a4
    heap:=by
     intro l w1 w2 h1 h2 id B a1 a2 a3
     rw[h2];exact h1 id B a1 a2 a3
    cx:=fun ord hho uA=>⟨wL,hHd,hW,Lp,hpw,wU,hho,uA,fun v E' h' w' u a ds h1 h2 h3 h4=>.inr ⟨v,u,E',h',ds,rfl,eA.trans hr h1 (fun _ _ hm=>.inl hm),h2,h3,h4⟩⟩
    last:=fun s' a' E' h' w' h1 h2 h3=>.inl ⟨.normal,E',h',s',trivial,eA.trans hr h1 (fun _ _ hm=>.inl hm),h2,ZL _ _ h3⟩ }
   have cx:=dc.cx order wP hpo
   have TA:∀k x,0<=k->order[k]?=some x->mK P p.pure ops (ii .any ops) (bH ops.size order k) x=true:=fun k x _ hk=>tZ order _ cA k x hk
   have atEnd:bH ops.size order order.length=fW order (Array.replicate ops.size false):=by simp[bH]
   refine wp_region_any hm (AF (C:=CC (ii .any ops) hl) (S:=fun l=>jU (Hd l) E h { w with drawn:=w.drawn+1 }) (pu:=fun i=>p.pure.contains i) _ _ _ _ ?_)
   have start:lF P .any ops (CQ E h W w N Q QP) (CC (ii .any ops) hl) (fun l=>jU (Hd l) E h { w with drawn:=w.drawn+1 }) (fun i=>p.pure.contains i) (ops.size-0) (bH ops.size order 0) a { w with drawn:=w.drawn+1 }:=by
    by_cases b7:p.alts=[]
    ·have oN:kL P N Wf Hd QP ops p.fI K s h:=by unfold sH at he;rw[b7]at he;exact he
     have hl:=hlen b7
     refine BH cx (An (pu:=p.pure) dc.heap (fun dst v c a w hh=>dc.put dst v c a w hh) wK wP TA (sZ order) (by omega)) (fun s' a' E' h' w' h1 _ h2 h3=>?_) _ 0 s a E h _ (zU _) (fun m=>by rw[jR];simp) (by rw[jR];simp) hg (Step.refl wL) HI.start ha oN
     have h0:ops.size-order.length=0:=by omega
     simp only[h0,lF]
     exact⟨by rw[atEnd,tE,b7];rfl,dc.last s' a' E' h' w' h1 h2 h3⟩
    ·have HT:=halt b7
     have oN:kL P N Wf Hd QP ops p.fI (nn P N Wf Hd QP ops p.alts K) s h:=by
      unfold sH at he
      split at he
      ·rename_i h0;exact absurd h0 b7
      ·exact he
     have hle:order.length<=ops.size:=by
      cases Va:p.alts with
      |nil=>exact absurd Va b7
      |cons wy ws=>
       rw[Va]at HT
       unfold pS at HT
       rw[yC]at HT
       have h2:=HT.1
       cases wy with
       |mk path nx=>
        unfold xE at h2
        simp only[yC,Nat.ble_eq]at h2
        omega
     refine BH cx (An (pu:=p.pure) dc.heap (fun dst v c a w hh=>dc.put dst v c a w hh) wK wP TA (sZ order) hle) (fun s1 a1 E1 dP w1 qx tI Bu pW=>?_) _ 0 s a E h _ (zU _) (fun m=>by rw[jR];simp) (by rw[jR];simp) hg (Step.refl wL) HI.start ha oN
     have wS:gH .any ops (bH ops.size order order.length):=by
      have:=mZ (P:=P) (pu:=p.pure) (ops:=ops) (B:=ii .any ops) (order:=order) (k1:=0) TA (sZ order) order.length
      simpa using this
     exact Hi dc p.alts order (by rw[atEnd];exact HT) wP hhI wS (by rw[atEnd];exact tE) b7 s1 a1 E1 dP w1 qx tI Bu pW
   simpa[bH,fW] using start
 have YI:∀(Wg:Nat->Nat->Prop)(j id:Nat),p.pure.contains j=true->¬CS p.pure Wg j id:=by
  intro Wg j id hj
  unfold CS
  rw[hj]
  exact fun h=>h
 have TZ:∀(Wg:Nat->Nat->Prop)(j id:Nat),CS p.pure Wg j id->Wg j id:=by
  intro Wg j id hj
  unfold CS at hj
  cases hc:p.pure.contains j with
  |true=>rw[hc]at hj;exact hj.elim
  |false=>rw[hc]at hj;exact hj
 cases Zx:p.held
 ·rw[Zx]at hp
  exact main _ lO (fun _ _ _ h=>h.elim) (fun _ _ _ _ h=>h.elim) (fun j id h=>TZ _ j id h) (fun j id h=>YI _ j id h) hp
 ·rw[Zx]at hp
  obtain⟨Hd,h1,h2⟩:=hp
  refine main _ _ (fun i id hc he=>?_) (fun j i id hc he hm=>?_) ?_ (fun j id h=>YI _ j id h) h2
  ·subst he;exact h1 i (by simpa using hc)
  ·have hm:=TZ _ j id hm
   unfold CC at hc
   simp only[yC]at hc
   exact(Ik hm).2 i (List.mem_filter.2 ⟨by simpa using hc.1,hc.2⟩) he
  ·intro i id hm
   exact(Ik (TZ _ i id hm)).1
end
section
variable {P:Program} {N:Nat} {W:Nat->Prop}
theorem CQ.mono{E0:Env}{h0:AH}{w0:World}{Q Q':ck}{QP fk:bU}(hq:∀x s h,Q x s h->Q' x s h)(eK:∀ds v h,QP ds v h->fk ds v h){e:Exit}{a:Act}{w:World}
  (h:CQ E0 h0 W w0 N Q QP e a w):CQ E0 h0 W w0 N Q' fk e a w:=by
 rcases h with⟨x,E,h,s,a1,a2,a3,a4⟩ |⟨v,u,E,h,ds,a1,a2,a3,a4,a5⟩
 ·exact .inl ⟨x,E,h,s,a1,a2,a3,hq _ _ _ a4⟩
 ·exact .inr ⟨v,u,E,h,ds,a1,a2,a3,a4,eK _ _ _ a5⟩
theorem pL(hm:P.follows .mixedOrders=true){pl:dz}:∀(c:Code)(Q:ck)(QP:bU)(s:St)(h:AH),kl P pl c=true->aw P N W pl c Q QP s h->∀(E:Env)(w:World)(a:Act),Rel E h w->AR E N s a->c.wp P (CQ E h W w N Q QP) a w
 |.skip,Q,QP,s,h,cA,hp,E,w,a,hr,ha=>wp_skip (.inl ⟨.normal,E,h,s,trivial,Step.refl hr,ha,hp⟩)
 |.label _,Q,QP,s,h,cA,hp,E,w,a,hr,ha=>wp_label (.inl ⟨.normal,E,h,s,trivial,Step.refl hr,ha,hp⟩)
 |.exit id,Q,QP,s,h,cA,hp,E,w,a,hr,ha=>wp_exit (.inl ⟨.exit id,E,h,s,rfl,Step.refl hr,ha,hp⟩)
 |.goto l,Q,QP,s,h,cA,hp,E,w,a,hr,ha=>wp_goto (.inl ⟨.goto l,E,h,s,rfl,Step.refl hr,ha,hp⟩)
 |.ret,Q,QP,s,h,cA,hp,E,w,a,hr,ha=>wp_ret (.inl ⟨.ret,E,h,s,trivial,Step.refl hr,ha,hp⟩)
 |.region id ops draw,Q,QP,s,h,cA,hp,E,w,a,hr,ha=>JK hm cA (fun _ _ h=>h) hr ha hp
 |.rangeFunc ..,_,_,_,_,cA,hp,_,_,_,_,_=>hp.elim
 |.refuse _,_,_,_,_,cA,hp,_,_,_,_,_=>hp.elim
 |.cond c x y,Q,QP,s,h,cA,hp,E,w,a,hr,ha=>by
  simp only[kl,yC]at cA
  simp only[aw,aM]at hp
  have hc:=ha.eval c
  split at hp
  ·rename_i t ht
   rw[ht]at hc
   generalize hv:a.eval c=v at hc
   cases hc
   cases t
   ·exact wp_cond_false hv (pL hm y Q QP s h cA.2 (hp.2 rfl) E w a hr ha)
   ·exact wp_cond_true hv (pL hm x Q QP s h cA.1 (hp.1 rfl) E w a hr ha)
  ·exact hp.elim
 |.seq x y,Q,QP,s,h,cA,hp,E,w,a,hr,ha=>by
  simp only[kl,yC]at cA
  simp only[aw]at hp
  refine wp_seq (wp_mono (pL hm x _ QP s h cA.1 hp E w a hr ha) ?_)
  intro e a' w' hq
  rcases hq with⟨x',E',h',s',a1,a2,a3,a4⟩ |⟨v,u,E',h',ds,rfl,a2,a3,a4,a5⟩
  ·cases x'<;>cases e<;>first |exact a1.elim |skip
   ·exact wp_mono (pL hm y Q QP s' h' cA.2 a4 E' w' a' a2.rel a3) fun e a w h=>h.trans hr a2
   ·exact .inl ⟨_,E',h',s',a1,a2,a3,a4⟩
   ·exact .inl ⟨_,E',h',s',a1,a2,a3,a4⟩
   ·exact .inl ⟨_,E',h',s',a1,a2,a3,a4⟩
  ·exact .inr ⟨v,u,E',h',ds,rfl,a2,a3,a4,a5⟩
 |.block id c,Q,QP,s,h,cA,hp,E,w,a,hr,ha=>by
  simp only[aw]at hp
  refine wp_block (wp_mono (pL hm c _ QP s h cA hp E w a hr ha) ?_)
  intro e a' w' hq
  rcases hq with⟨x',E',h',s',a1,a2,a3,a4⟩ |⟨v,u,E',h',ds,rfl,a2,a3,a4,a5⟩
  ·cases x'<;>cases e<;>first |exact a1.elim |skip
   ·exact .inl ⟨.normal,E',h',s',trivial,a2,a3,a4⟩
   ·cases a1
    simp only[eI]at a4
    simp only[Exit.inBlock]
    split
    ·rename_i he;rw[zX he]at a4;exact .inl ⟨.normal,E',h',s',trivial,a2,a3,a4⟩
    ·rename_i he;rw[zW he]at a4;exact .inl ⟨.exit _,E',h',s',rfl,a2,a3,a4⟩
   ·exact .inl ⟨_,E',h',s',a1,a2,a3,a4⟩
   ·exact .inl ⟨_,E',h',s',a1,a2,a3,a4⟩
  ·exact .inr ⟨v,u,E',h',ds,rfl,a2,a3,a4,a5⟩
 |.scope c,Q,QP,s,h,cA,hp,E,w,a,hr,ha=>by
  simp only[aw]at hp
  refine wp_scope_straight (wp_mono (pL hm c _ QP s h cA hp E w a hr ha) ?_)
  intro e a' w' hq
  rcases hq with⟨x',E',h',s',a1,a2,a3,a4⟩ |⟨v,u,E',h',ds,rfl,a2,a3,a4,a5⟩
  ·cases x'<;>cases e<;>first |exact a1.elim |skip
   ·exact .inl ⟨.normal,E',h',s',trivial,a2,a3,a4⟩
   ·exact .inl ⟨_,E',h',s',a1,a2,a3,a4⟩
   ·exact a4.elim
   ·exact .inl ⟨_,E',h',s',a1,a2,a3,a4⟩
  ·exact .inr ⟨v,u,E',h',ds,rfl,a2,a3,a4,a5⟩
 |.loop c,Q,QP,s,h,cA,hp,E,w,a,hr,ha=>by
  obtain⟨n,hp⟩:=hp
  refine wp_loop_rounds n ?_
  have key:∀(n:Nat)(s':St)(h':AH)(E':Env)(w':World)(a':Act),pN (aw P N W pl c) n Q QP s' h'->Step E h W w E' h' w'->AR E' N s' a'->Code.rounds P c (CQ E h W w N Q QP) n a' w':=by
   intro n
   induction n with
   |zero=>intro s' h' E' w' a' hp _ _;exact hp.elim
   |succ n ih=>
    intro s' h' E' w' a' hp hs ha
    rw[rounds_succ]
    refine wp_mono (pL hm c _ QP s' h' cA hp E' w' a' hs.rel ha) ?_
    intro e a'' EC hq
    rcases hq with⟨x',E2,h2,s2,a1,a2,a3,a4⟩ |⟨v,u,E2,h2,ds,rfl,a2,a3,a4,a5⟩
    ·have Q8:=hs.trans hr a2 (fun _ _ hm=>.inl hm)
     cases x'<;>cases e<;>first |exact a1.elim |skip
     ·exact ih s2 h2 E2 EC a'' a4 Q8 a3
     ·exact .inl ⟨_,E2,h2,s2,a1,Q8,a3,a4⟩
     ·exact .inl ⟨_,E2,h2,s2,a1,Q8,a3,a4⟩
     ·exact .inl ⟨_,E2,h2,s2,a1,Q8,a3,a4⟩
    ·exact .inr ⟨v,u,E2,h2,ds,rfl,hs.trans hr a2 (fun _ _ hm=>.inl hm),a3,a4,a5⟩
  exact key n s h E w a hp (Step.refl hr) ha
def lf(P:Program):List ResultVar->St->AH->(List AV->Prop)->Prop
 |[],_,_,K=>K []
 |.tmp t::r,s,h,K=>lf P r s h fun l=>K (s.tm t::l)
 |.cell a t::r,s,h,K=>al (ke P t) (eM P t) (s.tm a) h fun v _=>lf P r s h fun l=>K (v::l)
def i_:List AV->AV
 |[v]=>v
 |l=>.cP l
def cM(P:Program)(rs:List ResultVar)(R:AE->AH->Prop):ck
 |.normal,s,h=>s.ds=[]/\lf P rs s h fun vs=>R (.ret (i_ vs)) h
 |.ret,s,h=>s.ds=[]/\lf P rs s h fun vs=>R (.ret (i_ vs)) h
 |_,_,_=>False
def bx(R:AE->AH->Prop):bU:=fun ds v h=>ds=[]/\R (.b6 v) h
def v_(tmps:Array Value):ResultVar->Sem Value
 |.tmp t=>pure (tmps.getD t undef)
 |.cell a t=>do loadVar t (<-asAddr (tmps.getD a undef))
theorem Cy{E:Env}{s:St}{a:Act}{h:AH}{w:World}(hr:Rel E h w)(ha:AR E N s a):∀(rs:List ResultVar)(K:List AV->Prop),lf P rs s h K ->
  ∃vs us,cu E vs us/\K vs/\(rs.mapM (v_ a.tmps)).run P w=.ok us w
 |[],K,hp=>⟨[],[],.nil,hp,by simp⟩
 |.tmp t::rs,K,hp=>by
  obtain⟨vs,us,h1,h2,h3⟩:=Cy hr ha rs _ hp
  exact⟨s.tm t::vs,a.tmps.getD t undef::us,.cons (ha.tm t) h1,h2,by simp[v_,h3]⟩
 |.cell a' t::rs,K,hp=>by
  simp only[lf]at hp
  obtain⟨v,u,id,B,h1,h2,h3,h4⟩:=Ld (P:=P) hr (ha.tm a') hp
  obtain⟨vs,us,h5,h6,h7⟩:=Cy hr ha rs _ h2
  refine⟨v::vs,u::us,.cons h1 h5,h6,?_⟩
  have h8:=h4 w rfl
  have h9:(v_ a.tmps (.cell a' t)).run P w=.ok u w:=by
   show(do loadVar t (<-asAddr (a.tmps.getD a' undef)):Sem Value).run P w=.ok u w
   have hx:=ha.tm a'
   unfold Instr.loadAt at h8
   simp only[Sem.run_bind]at h8 ⊢
   have aaU:∃i o,s.tm a'=.ptr i o:=by
    unfold al at hp
    split at hp
    ·rename_i he;exact⟨_,_,he⟩
    ·rename_i he;exact⟨_,_,he⟩
    ·exact hp.elim
   obtain⟨i,o,he⟩:=aaU
   rw[he]at hx
   generalize a.tmps.getD a' undef=q at hx h8
   cases hx
   simpa[asAddr,Instr.sureAddr] using h8
  rw[List.mapM_cons,Sem.run_bind,h9]
  simp[h7]
theorem AY {E : Env} {s : St} {a : Act} {h : AH} {w : World} (hr : Rel E h w) (ha : AR E N s a) (fn : Func) (K : AV → Prop) (hp : lf P fn.results.toList s h fun vs => K (i_ vs)) :
    ∃ v u, VR E v u ∧ K v ∧ (results fn a.tmps).run P w = .ok u w := by
  obtain ⟨vs, us, h1, h2, h3⟩ := Cy hr ha _ _ hp
  refine ⟨i_ vs, if h : us.toArray.size = 1 then us.toArray[0] else .tuple us.toArray, ?_, h2, ?_⟩
  · cases h1 with
    | nil => simpa [i_] using VR.cP cu.nil
    | cons a1 a2 =>
      cases a2 with
      | nil => simpa [i_] using a1
      | cons b1 b2 => simpa [i_] using VR.cP (.cons a1 (.cons b1 b2))
  · have he : results fn a.tmps = (do
        let vs ← fn.results.mapM (v_ a.tmps)
        pure (if h : vs.size = 1 then vs[0] else .tuple vs)) := by
      unfold results v_; rfl
    rw [he, Sem.run_bind, Array.mapM_eq_mapM_toList, Sem.run_map, h3]
    simp
def s0(args:List AV):St:={ tm:=fun i=>args.getD i aa,ds:=[] }
theorem IM{E:Env}{args:List AV}{dR:List Value}(ha:cu E args dR){n:Nat}(hn:args.length<=n) :
  AR E n (s0 args) { tmps:=dR.toArray++Array.replicate (n-dR.toArray.size) undef,defers:=[] }:=by
 have hl:=ha.length
 refine⟨by simp;omega,fun i=>?_,.nil⟩
 simp only[s0]
 rw[List.getD_eq_getElem?_getD,Array.getD_eq_getD_getElem?]
 by_cases hi:i<args.length
 ·obtain⟨u,hu,hv⟩:=ha.get (i:=i) (a:=args[i]) (zJ hi)
  rw[zJ hi,Array.getElem?_append_left (by simp;omega)]
  simp[hu,hv]
 ·rw[List.getElem?_eq_none (by omega),Array.getElem?_append_right (by simp;omega)]
  have:((Array.replicate (n-dR.toArray.size) undef)[i-dR.toArray.size]?).getD undef=undef:=by
   rw[Array.getElem?_replicate];split<;>rfl
  rw[this]
  exact .sc _
theorem xw{f:FuncId}{fn:Func}{c:Code}{args:List AV}{h:AH}{M:Nat->Prop}{R:AE->AH->Prop}(hm:P.follows .mixedOrders=true)(hf:P.funcs[f]?=some fn)(hb:fn.body=some c)(hn:args.length<=fn.ntmps){pl:dz}(cA:kl P pl c=true)
  (hp:aw P fn.ntmps (fun id=>M id\/h.next<=id) pl c (cM P fn.results.toList R) (bx R) (s0 args) h):aB P f args h M R:=by
 intro E w dR hr ha
 refine calls_of_wp hf hb (wp_mono (pL hm c _ _ _ h cA hp E w _ hr (IM ha hn)) ?_)
 have back:∀E' h' w',Step E h (fun id=>M id\/h.next<=id) w E' h' w'->Step E h M w E' h' w':=fun E' h' w' hs=>(Step.refl hr).trans hr hs (fun id aJ hm=>by
  rcases hm with hm |hm
  ·exact .inl hm
  ·exact .inr hm)
 intro e a' w' hq
 rcases hq with⟨x,E',h',s',a1,a2,a3,a4⟩ |⟨v,u,E',h',ds,rfl,a2,a3,a4,a5⟩
 ·have fin:s'.ds=[]->(lf P fn.results.toList s' h' fun vs=>R (.ret (i_ vs)) h')->a'.defers=[]/\∃v,(results fn a'.tmps).run P w'=.ok v w'/\∃E'' DC ae,Step E h M w E'' DC w'/\ER E'' ae (.returned v)/\R ae DC:=by
   intro oO rC
   obtain⟨v,u,b1,b2,b3⟩:=AY a2.rel a3 fn (fun v=>R (.ret v) h') rC
   refine⟨?_,u,b3,E',h',.ret v,back _ _ _ a2,b1,b2⟩
   have:=a3.ds
   rw[oO]at this
   generalize a'.defers=l at this
   cases this;rfl
  cases x<;>cases e<;>first |exact a1.elim |exact a4.elim |exact fin a4.1 a4.2
 ·refine⟨?_,E',h',.b6 v,back _ _ _ a2,⟨u,rfl,a3⟩,a5.2⟩
  have:=a4
  rw[a5.1]at this
  generalize a'.defers=l at this
  cases this;rfl
end
section
variable {P:Program} {N:Nat} {W:Nat->Prop} {pl:dz}
theorem JJ{Hd:Nat->Prop}{QP fk:bU}(hq:∀ds v h,QP ds v h->fk ds v h){held:Bool}{o:Oper}{K K':St->AH->Prop}(hk:∀s h,K s h->K' s h){s:St}{h:AH}(hp:qO P N W Hd QP held o K s h) :
  qO P N W Hd fk held o K' s h:=by
 unfold qO at *
 split at hp
 ·refine qOp_mono (fun v d _ hh=>?_) hp
  unfold cA at *
  split at hh
  ·exact hk _ _ hh
  ·exact⟨hh.1,hk _ _ hh.2⟩
 ·exact OH (fun v d h'=>hk _ _) (fun v h'=>hq _ _ _) hp
theorem po{Wf:Nat->Nat->Prop}{Hd:Nat->Nat->Prop}{QP fk:bU}(hq:∀ds v h,QP ds v h->fk ds v h){ops:Array Oper}:∀(is:List (Nat×Bool)){K K':St->AH->Prop},(∀s h,K s h->K' s h)->∀{s:St}{h:AH},mX P N Wf Hd QP ops is K s h->mX P N Wf Hd fk ops is K' s h
 |[],_,_,hk,_,_,hp=>hk _ _ hp
 |x::is,K,K',hk,s,h,hp=>by
  simp only[mX]at hp ⊢
  split at hp
  ·exact JJ hq (fun s h=>po hq is hk) hp
  ·exact hp.elim
theorem GH{x:AV}{a b a' b':Prop}(ha:a->a')(hb:b->b')(hp:aM x a b):aM x a' b':=by
 unfold aM at *
 split at hp
 ·exact⟨fun h=>ha (hp.1 h),fun h=>hb (hp.2 h)⟩
 ·exact hp.elim
theorem GG{want:Bool}{x:AV}{a b a' b':Prop}(ha:a->a')(hb:b->b')(hp:bE want x a b):bE want x a' b':=by
 unfold bE at *
 split at hp
 ·exact⟨fun h=>ha (hp.1 h),fun h=>hb (hp.2 h)⟩
 ·exact hb hp
 ·exact hp.elim
theorem rI{Wf:Nat->Nat->Prop}{Hd:Nat->Nat->Prop}{QP fk:bU}(hq:∀ds v h,QP ds v h->fk ds v h){ops:Array Oper}:∀(gs:List (Option (Nat×Bool)×List (Nat×Bool))){K K':St->AH->Prop},(∀s h,K s h->K' s h)->∀{s:St}{h:AH},kL P N Wf Hd QP ops gs K s h->kL P N Wf Hd fk ops gs K' s h
 |[],_,_,hk,_,_,hp=>hk _ _ hp
 |(none,is)::gs,K,K',hk,s,h,hp=>by
  simp only[kL]at hp ⊢
  exact po hq is (fun s h=>rI hq gs hk) hp
 |(some (j,want),is)::gs,K,K',hk,s,h,hp=>by
  simp only[kL]at hp ⊢
  split at hp
  ·exact GG (po hq is (fun s h=>rI hq gs hk)) (rI hq gs hk) hp
  ·exact hp.elim
mutual
theorem OB{Wf:Nat->Nat->Prop}{Hd:Nat->Nat->Prop}{QP fk:bU}(hq:∀ds v h,QP ds v h->fk ds v h){ops:Array Oper}{K K':St->AH->Prop}(hk:∀s h,K s h->K' s h):∀(w:Way){s:St}{h:AH},wZ P N Wf Hd QP ops w K s h->wZ P N Wf Hd fk ops w K' s h
 |.mk path [],s,h,hp=>by
  unfold wZ at hp ⊢
  exact po hq path hk hp
 |.mk path (w::ws),s,h,hp=>by
  unfold wZ at hp ⊢
  exact po hq path (fun s h=>wY hq hk (w::ws)) hp
termination_by w=>SizeOf.sizeOf w
theorem wY{Wf:Nat->Nat->Prop}{Hd:Nat->Nat->Prop}{QP fk:bU}(hq:∀ds v h,QP ds v h->fk ds v h){ops:Array Oper}{K K':St->AH->Prop}(hk:∀s h,K s h->K' s h):∀(ws:List Way){s:St}{h:AH},nn P N Wf Hd QP ops ws K s h->nn P N Wf Hd fk ops ws K' s h
 |[],s,h,hp=>by unfold nn;trivial
 |w::r,s,h,hp=>by
  unfold nn at hp ⊢
  exact⟨OB hq hk w hp.1,wY hq hk r hp.2⟩
termination_by ws=>SizeOf.sizeOf ws
end
theorem F6{Wf:Nat->Nat->Prop}{Hd:Nat->Nat->Prop}{QP fk:bU}(hq:∀ds v h,QP ds v h->fk ds v h){ops:Array Oper}{K K':St->AH->Prop}(hk:∀s h,K s h->K' s h){s:St}{h:AH}{p:th}(hp:sH P N Wf Hd QP ops p K s h):sH P N Wf Hd fk ops p K' s h:=by
 unfold sH at *
 split at hp
 ·exact rI hq _ hk hp
 ·exact rI hq _ (fun s h=>wY hq hk _) hp
theorem GF{QP fk:bU}(hq:∀ds v h,QP ds v h->fk ds v h){ops:Array Oper}{id:Nat}{K K':St->AH->Prop}(hk:∀s h,K s h->K' s h){s:St}{h:AH}(hp:kF P N W QP pl id ops K s h) :
  kF P N W fk pl id ops K' s h:=by
 unfold kF at *
 split at hp
 ·exact po hq _ hk hp
 ·split at hp
  ·exact F6 hq hk hp
  ·obtain⟨Hd,h1,h2⟩:=hp;exact⟨Hd,h1,F6 hq hk h2⟩
theorem tV{K K':St->AH->Prop}{Q Q':ck}(hk:∀s h,K s h->K' s h)(hq:∀x s h,Q x s h->Q' x s h):∀x s h,bL K Q x s h->bL K' Q' x s h:=by
 intro x s h hp
 cases x
 ·exact hk _ _ hp
 ·exact hq (.exit _) _ _ hp
 ·exact hq (.goto _) _ _ hp
 ·exact hq .ret _ _ hp
theorem mo:∀(c:Code){Q Q':ck}{QP fk:bU},(∀x s h,Q x s h->Q' x s h)->(∀ds v h,QP ds v h->fk ds v h)->∀{s:St}{h:AH},aw P N W pl c Q QP s h->aw P N W pl c Q' fk s h
 |.skip,_,_,_,_,hq,_,_,_,hp=>hq _ _ _ hp
 |.label _,_,_,_,_,hq,_,_,_,hp=>hq _ _ _ hp
 |.exit _,_,_,_,_,hq,_,_,_,hp=>hq _ _ _ hp
 |.goto _,_,_,_,_,hq,_,_,_,hp=>hq _ _ _ hp
 |.ret,_,_,_,_,hq,_,_,_,hp=>hq _ _ _ hp
 |.rangeFunc ..,_,_,_,_,_,_,_,_,hp=>hp.elim
 |.refuse _,_,_,_,_,_,_,_,_,hp=>hp.elim
 |.region _ ops _,_,_,_,_,hq,eK,_,_,hp=>GF eK (hq .normal) hp
 |.seq a b,_,_,_,_,hq,eK,_,_,hp=>mo a (tV (fun _ _=>mo b hq eK) hq) eK hp
 |.cond c a b,_,_,_,_,hq,eK,_,_,hp=>GH (mo a hq eK) (mo b hq eK) hp
 |.block id c,Q,Q',_,_,hq,eK,_,_,hp=>by
  refine mo c (Q:=eI id Q) ?_ eK hp
  intro x s h hp
  cases x with
  |exit j=>
   simp only[eI]at hp ⊢
   split at hp
   ·rename_i he;rw[zX he];exact hq _ _ _ hp
   ·rename_i he;rw[zW he];exact hq _ _ _ hp
  |normal=>exact hq .normal _ _ hp
  |goto l=>exact hq (.goto l) _ _ hp
  |ret=>exact hq .ret _ _ hp
 |.scope c,Q,Q',_,_,hq,eK,_,_,hp=>by
  refine mo c (Q:=pe Q) ?_ eK hp
  intro x s h hp
  cases x with
  |exit j=>exact hq (.exit j) _ _ hp
  |normal=>exact hq .normal _ _ hp
  |goto l=>exact hp.elim
  |ret=>exact hq .ret _ _ hp
 |.loop c,Q,Q',QP,fk,hq,eK,s,h,hp=>by
  obtain⟨n,hp⟩:=hp
  refine⟨n,?_⟩
  have key:∀(n:Nat)(s:St)(h:AH),pN (aw P N W pl c) n Q QP s h->pN (aw P N W pl c) n Q' fk s h:=by
   intro n
   induction n with
   |zero=>intro s h hp;exact hp.elim
   |succ n ih=>intro s h hp;exact mo c (tV ih hq) eK hp
  exact key n s h hp
theorem pB{ι:Type}{c:Code}{Q:ck}{QP:bU}(I:ι->St->AH->Prop)(μ:ι->Nat)(i:ι){s:St}{h:AH}(h0:I i s h)
  (step:∀i s h,I i s h->aw P N W pl c (bL (fun s' h'=>∃i',μ i'<μ i/\I i' s' h') Q) QP s h):lz (aw P N W pl c) Q QP s h:=by
 refine⟨μ i+1,?_⟩
 have key:∀(n:Nat)(i:ι)(s:St)(h:AH),μ i<n->I i s h->pN (aw P N W pl c) n Q QP s h:=by
  intro n
  induction n with
  |zero=>intro i s h aJ _;omega
  |succ n ih=>
   intro i s h aJ hi
   refine mo c (tV (fun s' h'=>?_) (fun _ _ _ h=>h)) (fun _ _ _ h=>h) (step i s h hi)
   rintro⟨i',h1,h2⟩
   exact ih i' s' h' (by omega) h2
 exact key _ i s h (by omega) h0
def Code.at:Code->List Nat->Code
 |c,[]=>c
 |.seq a _,0::p=>Code.at a p
 |.seq _ b,_::p=>Code.at b p
 |.cond _ a _,0::p=>Code.at a p
 |.cond _ _ b,_::p=>Code.at b p
 |.block _ c,_::p=>Code.at c p
 |.loop c,_::p=>Code.at c p
 |.scope c,_::p=>Code.at c p
 |c,_=>c
abbrev aI(cells:List AV)(sz:Nat)(ty:TypeId):AO:={ cells:=cells,sz:=sz,ty:=ty }
theorem AH.bJ(h:AH)(o:AO)(i:Nat):(h.alloc o).obj i=if i=h.next then some o else h.obj i:=rfl
theorem AH.bD(h:AH)(o:AO):(h.alloc o).next=h.next+1:=rfl
theorem AH.rh(h:AH)(id off:Nat)(cs:List AV):(h.put id off cs).next=h.next:=rfl
theorem AH.fw(h:AH)(id:Nat):(h.del id).next=h.next:=rfl
theorem AH.Ic(h:AH)(id i:Nat):(h.del id).obj i=if i=id then none else h.obj i:=rfl
theorem AH.pG(h:AH)(id:Nat)(k:Kind)(i:Nat):(h.iJ id k).obj i=if i=id then(h.obj i).map (fun o=>{ o with kind:=k }) else h.obj i:=rfl
theorem AH.cg(h:AH)(o:AO):(h.alloc o).obj h.next=some o:=by simp[AH.bJ]
theorem AH.alloc_old{h:AH}{o:AO}{i:Nat}(hi:i<h.next):(h.alloc o).obj i=h.obj i:=by rw[AH.bJ,zW (by omega)]
theorem AH.iM{h:AH}{id off:Nat}{cs:List AV}{i:Nat}(hi:i≠id):(h.put id off cs).obj i=h.obj i:=by rw[AH.bK,zW hi]
theorem AH.Ks{h:AH}{id off:Nat}{cs:List AV}{o:AO}(ho:h.obj id=some o):(h.put id off cs).obj id=some { o with cells:=putCells o.cells off cs }:=by rw[AH.bK,zX rfl,ho];rfl
theorem AH.qX{h:AH}{id i:Nat}(hi:i≠id):(h.del id).obj i=h.obj i:=by rw[AH.Ic,zW hi]
theorem MZ(tm:Nat->AV)(d:Nat)(v:AV):eP tm d v d=v:=by simp[eP]
theorem lH{tm:Nat->AV}{d:Nat}{v:AV}{i:Nat}(h:i≠d):eP tm d v i=tm i:=by simp[eP,h]
end
section
variable {P:Program}
def ai(tm:Nat->AV):List (Nat×AV)->Nat->AV
 |[]=>tm
 |x::r=>ai (eP tm x.1 x.2) r
def wc:Code->Array Oper
 |.region _ ops _=>ops
 |_=>#[]
section
variable {N:Nat} {W:Nat->Prop} {pl:dz} {Q:ck} {QP:bU} {s:St} {h:AH}
theorem Mw{id:Nat}{ops:Array Oper}{draw:Bool}{gs:List (Option (Nat×Bool)×List (Nat×Bool))}(hp:rk pl id=some ⟨gs,false,[],[]⟩) :
  aw P N W pl (.region id ops draw) Q QP s h=kL P N (fun _=>W) lO QP ops gs (Q .normal) s h:=by
 simp only[aw,kF,hp,sH];rfl
theorem Gw{id:Nat}{ops:Array Oper}{draw:Bool}{gs:List (Option (Nat×Bool)×List (Nat×Bool))}{pu:List Nat}(hp:rk pl id=some ⟨gs,false,[],pu⟩) :
  aw P N W pl (.region id ops draw) Q QP s h=kL P N (CS pu fun _=>W) lO QP ops gs (Q .normal) s h:=by
 simp only[aw,kF,hp,sH]
variable {ops:Array Oper} {K:St->AH->Prop} {is:List (Nat×Bool)} {gs:List (Option (Nat×Bool)×List (Nat×Bool))}
end
def P5(o:Option AO)(off:Nat)(K:AV->Prop):Prop:=
 match o with
 |some o=>(match o.kind with |.row=>True |_=>False)/\(match o.cells[off]? with |some c=>K c |none=>False)
 |none=>False
theorem aF{n:Option Nat}{id off:Nat}{h:AH}{K:AV->Nat->Prop}:al (some false) n (.ptr id off) h K=P5 (h.obj id) off (fun v=>K v id):=by
 simp only[al,P5]
 apply propext
 constructor
 ·rintro⟨o,c,⟨h1,h2,h3⟩,h4⟩
  rw[h1];simp only[h2,h3];exact⟨trivial,h4⟩
 ·intro hh
  cases ho:h.obj id with
  |none=>rw[ho]at hh;exact hh.elim
  |some o=>
   rw[ho]at hh
   obtain⟨h1,h2⟩:=hh
   cases hk:o.kind with
   |row=>
    cases hc:o.cells[off]? with
    |none=>rw[hc]at h2;exact h2.elim
    |some c=>rw[hc]at h2;exact⟨o,c,⟨rfl,hk,hc⟩,h2⟩
   |iter s p=>rw[hk]at h1;exact h1.elim
   |map l=>rw[hk]at h1;exact h1.elim
   |FW b ob=>rw[hk]at h1;exact h1.elim
def xY(c:Option AV)(K:AV->Prop):Prop:=match c with |some c=>K c |none=>False
theorem ab{c:AV}{K:AV->Prop}:xY (some c) K=K c:=rfl
theorem JA{K:AV->Prop}:xY none K=False:=rfl
theorem aA{cells:List AV}{sz:Nat}{ty:TypeId}{ro:Bool}{off:Nat}{K:AV->Prop}:P5 (some { cells:=cells,sz:=sz,ty:=ty,ro:=ro,kind:=.row }) off K=xY cells[off]? K:=by
 unfold P5 xY;simp
def I0(o:Option AO)(off n:Nat)(K:AV->Prop):Prop:=
 match o with
 |some o=>(match o.kind with |.row=>True |_=>False)/\off+n<=o.cells.length/\K (.agg ((o.cells.drop off).take n))
 |none=>False
theorem nX{n:Nat}{id off:Nat}{h:AH}{K:AV->Nat->Prop}:al (some true) (some n) (.ptr id off) h K=I0 (h.obj id) off n (fun v=>K v id):=by
 simp only[al,I0]
 apply propext
 constructor
 ·rintro⟨o,⟨h1,h2,h3⟩,h4⟩
  rw[h1];simp only[h2];exact⟨trivial,h3,h4⟩
 ·intro hh
  cases ho:h.obj id with
  |none=>rw[ho]at hh;exact hh.elim
  |some o=>
   rw[ho]at hh
   obtain⟨h1,h2,h3⟩:=hh
   cases hk:o.kind with
   |row=>exact⟨o,⟨rfl,hk,h2⟩,h3⟩
   |iter s p=>rw[hk]at h1;exact h1.elim
   |map l=>rw[hk]at h1;exact h1.elim
   |FW b ob=>rw[hk]at h1;exact h1.elim
theorem mg{cells:List AV}{sz:Nat}{ty:TypeId}{ro:Bool}{off n:Nat}{K:AV->Prop}:I0 (some { cells:=cells,sz:=sz,ty:=ty,ro:=ro,kind:=.row }) off n K=(off+n<=cells.length/\K (.agg ((cells.drop off).take n))):=by
 unfold I0;simp
theorem aL{i o:Nat}{K:AV->Prop}:aY (.ptr i o) K=K (.ptr i o):=rfl
theorem aj{d i o:Nat}{K:AV->Prop}:ah (some d) (.ptr i o) K=K (.ptr i (o+d)):=rfl
theorem c_{t:Bool}{a b:AV}{K:AV->Prop}:aT (.sc (.bool t)) a b K=K (if t then a else b):=rfl
theorem o_{sz id off len:Nat}{k:IntKind}{n:Int}{K:AV->Prop}:cj (some (sz,none)) (.sl id off len) (.sc (.int k n)) K=((0<=n/\n<(len:Int))/\K (.ptr id (off+n.toNat*sz))):=rfl
theorem RY{sz len id off:Nat}{k:IntKind}{n:Int}{K:AV->Prop}:cj (some (sz,some len)) (.ptr id off) (.sc (.int k n)) K=((0<=n/\n<(len:Int))/\K (.ptr id (off+n.toNat*sz))):=rfl
theorem c9{l:List AV}{k:Nat}{K:AV->Prop}:cf (.cP l) k K=xY l[k]? K:=by
 simp only[cf,xY]
 apply propext
 constructor
 ·rintro⟨c,h1,h2⟩;rw[h1];exact h2
 ·intro hh;cases hc:l[k]? with
  |none=>rw[hc]at hh;exact hh.elim
  |some c=>rw[hc]at hh;exact⟨c,rfl,hh⟩
theorem d_{t:Bool}{K:AV->Prop}:gM .not (.sc (.bool t)) K=K (.sc (.bool !t)):=rfl
theorem RM{k:IntKind}{n:Int}{K:AV->Prop}:gM .neg (.sc (.int k n)) K=K (.sc (.int k (k.wrap (0-n)))):=rfl
theorem Hw{id off len:Nat}{K:AV->Prop}:bO (.sl id off len) K=K (.sc (.int .i64 len)):=rfl
theorem EV{a:Option Addr}{n c:Nat}{K:AV->Prop}:bO (.sc (.slice a n c)) K=K (.sc (.int .i64 n)):=rfl
theorem Kz{s:ByteArray}{K:AV->Prop}:bO (.sc (.string s)) K=K (.sc (.int .i64 s.size)):=rfl
theorem EG{s:ByteArray}:a_ (.sc (.string s))=true:=rfl
theorem CM{id off len:Nat}:a_ (.sl id off len)=false:=rfl
theorem AM{a:Option Addr}{n c:Nat}:a_ (.sc (.slice a n c))=false:=rfl
theorem T9{t:TypeId}{x:AV}{K:AV->Prop}:rl (some false) t x K=K (.kx t x):=rfl
theorem Uc{k k':IntKind}{n:Int}{K:AV->Prop}:qi (some k) (.sc (.int k' n)) K=K (.sc (.int k (k.wrap n))):=rfl
theorem RN{T t:TypeId}{ok:Bool}{v:AV}{K:AV->Prop}:CT (some false) T ok (.kx t v) K=(t=T/\K (if ok then .cP [v,.sc (.bool true)] else v)):=rfl
theorem ap{t:Bool}{a b:Prop}:aM (.sc (.bool t)) a b=((t=true->a)/\(t=false->b)):=rfl
theorem dW{want t:Bool}{a b:Prop}:bE want (.sc (.bool t)) a b=((t=want->a)/\(t=(!want)->b)):=rfl
theorem Yb{want:Bool}{a b:Prop}:bE want aa a b=b:=rfl
theorem Ua{s:ByteArray}{k:IntKind}{n:Int}{K:AV->Prop}:rm true (.sc (.string s)) (.sc (.int k n)) K=∃c:UInt8,(0<=n/\s[n.toNat]?=some c)/\K (.sc (.int .u8 c.toNat)):=rfl
section
variable {t:TypeId} {mY:Bool} {k:IntKind} {a b:Int} {x y:ByteArray} {K:AV->Prop}
theorem bg:ag P .add t mY (.sc (.int k a)) (.sc (.int k b)) K=K (.sc (.int k (k.wrap (a+b)))):=by simp[ag]
theorem kO:ag P .sub t mY (.sc (.int k a)) (.sc (.int k b)) K=K (.sc (.int k (k.wrap (a-b)))):=by simp[ag]
theorem EX:ag P .mul t mY (.sc (.int k a)) (.sc (.int k b)) K=K (.sc (.int k (k.wrap (a*b)))):=by simp[ag]
theorem eO:ag P .eql t mY (.sc (.int k a)) (.sc (.int k b)) K=K (.sc (.bool (a==b))):=by simp[ag]
theorem cy:ag P .neq t mY (.sc (.int k a)) (.sc (.int k b)) K=K (.sc (.bool (a != b))):=by simp[ag]
theorem bu:ag P .lss t mY (.sc (.int k a)) (.sc (.int k b)) K=K (.sc (.bool (decide (a<b)))):=by simp[ag]
theorem zt:ag P .leq t mY (.sc (.int k a)) (.sc (.int k b)) K=K (.sc (.bool (decide (a<=b)))):=by simp[ag]
theorem gA:ag P .gtr t mY (.sc (.int k a)) (.sc (.int k b)) K=K (.sc (.bool (decide (a > b)))):=by simp[ag]
theorem pb:ag P .geq t mY (.sc (.int k a)) (.sc (.int k b)) K=K (.sc (.bool (decide (a>=b)))):=by simp[ag]
theorem cD:ag P .eql t mY (.sc (.string x)) (.sc (.string y)) K=K (.sc (.bool (decide (x=y)))):=rfl
theorem KI:ag P .neq t mY (.sc (.string x)) (.sc (.string y)) K=K (.sc (.bool (!decide (x=y)))):=rfl
theorem r_:ag P .add t mY (.sc (.string x)) (.sc (.string y)) K=(x.size+y.size<9223372036854775808/\K (.sc (.string (x++y)))):=rfl
end
theorem fS{α:Type}{f:α->List AV}{k:Nat}(hf:∀x,(f x).length=k):∀(l:List α)(i j:Nat),j<k->(l.flatMap f)[i*k+j]?=(l[i]?).bind fun x=>(f x)[j]?
 |[],i,j,_=>by simp
 |x::l,0,j,hj=>by simp[List.getElem?_append_left,hf,hj]
 |x::l,i+1,j,hj=>by
  rw[List.flatMap_cons,List.getElem?_append_right (by rw[hf,Nat.add_mul];omega),hf]
  have:(i+1)*k+j-k=i*k+j:=by rw[Nat.add_mul];omega
  rw[this,fS hf l i j hj];simp
theorem jg{α:Type}{f:α->List AV}{k:Nat}(hf:∀x,(f x).length=k)(hk:0<k)(l:List α)(i:Nat):(l.flatMap f)[i*k]?=(l[i]?).bind fun x=>(f x)[0]?:=fS hf l i 0 hk
theorem gD{α:Type}{f:α->List AV}{k:Nat}(hf:∀x,(f x).length=k):∀(l:List α),(l.flatMap f).length=l.length*k
 |[]=>by simp
 |x::l=>by rw[List.flatMap_cons,List.length_append,hf,gD hf l,List.length_cons,Nat.add_mul];omega
theorem sG{α:Type}{f:α->List AV}{k:Nat}(hf:∀x,(f x).length=k):∀(l:List α)(i:Nat)(x:α),l[i]?=some x->((l.flatMap f).drop (i*k)).take k=f x
 |[],i,x,h=>by simp at h
 |y::l,0,x,h=>by
  simp only[zA,zQ]at h;subst h
  simp only[Nat.zero_mul,List.drop_zero,List.flatMap_cons]
  rw[List.take_append,hf,Nat.sub_self,List.take_zero,List.append_nil,List.take_of_length_le (by rw[hf];exact zU _)]
 |y::l,i+1,x,h=>by
  simp only[zB]at h
  rw[List.flatMap_cons,List.drop_append,hf]
  have h1:(i+1)*k-k=i*k:=by rw[Nat.add_mul];omega
  rw[h1,List.drop_eq_nil_of_le (by rw[hf,Nat.add_mul];omega),List.nil_append]
  exact sG hf l i x h
theorem aX{n:Int}(h0:-9223372036854775808<=n)(h1:n<=9223372036854775807):IntKind.i64.wrap n=n:=IntWalk.i64_in _ (by omega)
end
section
variable {P:Program}
abbrev KT:=St->AH->Prop
abbrev CA:=List (Option (Nat×Bool)×List (Nat×Bool))
section
variable {N:Nat} {W:Nat->Prop} {pl:dz} {Q:ck} {QP:bU} {s:St} {h:AH} {c a b:Code} {T:Prop}
theorem gX(e:c=.seq a b){C:KT}(hb:∀s h,aw P N W pl b Q QP s h=C s h)(ha:aw P N W pl a (bL C Q) QP s h=T):aw P N W pl c Q QP s h=T:=by
 subst e
 have:aw P N W pl b Q QP=C:=funext fun s=>funext fun h=>hb s h
 subst this;exact ha
theorem qV{o:Operand}{A B:Prop}(e:c=.cond o a b)(hA:aw P N W pl a Q QP s h=A)(hB:aw P N W pl b Q QP s h=B)(ht:aM (lx s o) A B=T):aw P N W pl c Q QP s h=T:=by
 subst e hA hB;exact ht
theorem E7{id:Nat}(e:c=.block id a)(ha:aw P N W pl a (eI id Q) QP s h=T):aw P N W pl c Q QP s h=T:=by subst e;exact ha
theorem Sc(e:c=.loop a):aw P N W pl c Q QP s h=lz (aw P N W pl a) Q QP s h:=by subst e;rfl
variable {ops:Array Oper} {K:KT} {is:List (Nat×Bool)} {gs rest:CA}
variable {Wf:Nat->Nat->Prop}
end
end
section
attribute [simp] ai eP s0 aL aj c_ o_ RY c9 d_ RM Hw EV Kz EG CM AM T9 Uc RN ap dW Yb Ua bg kO EX eO cy bu zt gA pb cD KI r_ aF aA nX mg ab JA cM bx lf i_ bL eI pe
end
section
abbrev aV:AV:=.sc (.slice none 0 0)
def bC{α:Type}(f:α->List AV)(sz:Nat)(ty:TypeId)(h:AH)(x:AV)(l:List α):Prop:=
 (x=aV/\l=[])\/∃id,x=.sl id 0 l.length/\h.obj id=some (aI (l.flatMap f) sz ty)
def df(S:Nat->Prop)(x:AV):Prop:=∀id off n,x=.sl id off n->S id
theorem bC.nil{α:Type}{f:α->List AV}{sz:Nat}{ty:TypeId}{h:AH}:bC f sz ty h aV []:=.inl ⟨rfl,rfl⟩
theorem bC.frame{α:Type}{f:α->List AV}{sz:Nat}{ty:TypeId}{h h':AH}{x:AV}{l:List α}(hl:bC f sz ty h x l)(hf:∀id off n,x=.sl id off n->h'.obj id=h.obj id):bC f sz ty h' x l:=by
 rcases hl with hl |⟨id,hx,ho⟩
 ·exact .inl hl
 ·exact .inr ⟨id,hx,by rw[hf id _ _ hx];exact ho⟩
theorem bC.len{α:Type}{f:α->List AV}{sz:Nat}{ty:TypeId}{h:AH}{x:AV}{l:List α}(hl:bC f sz ty h x l){K:AV->Prop}:(a_ x=false)/\bO x K=K (.sc (.int .i64 l.length)):=by
 rcases hl with⟨rfl,rfl⟩ |⟨id,rfl,ho⟩
 ·exact⟨rfl,rfl⟩
 ·exact⟨rfl,rfl⟩
theorem lX{z cs:List AV}(hz:cs.length=z.length):putCells z 0 cs=cs:=by
 have key:∀(cs z p:List AV),cs.length=z.length->putCells (p++z) p.length cs=p++cs:=by
  intro cs
  induction cs with
  |nil=>intro z p h;have:z=[]:=List.length_eq_zero_iff.1 (by simpa using h.symm);subst this;rfl
  |cons c cs ih=>
   intro z p h
   cases z with
   |nil=>simp at h
   |cons a z=>
    simp only[putCells]
    have:=ih z (p++[c]) (by simpa using h)
    simp only[List.append_assoc,List.singleton_append,List.length_append,List.length_singleton]at this
    rw[show(p++a::z).set p.length c=p++c::z from by simp]
    exact this
 simpa using key cs z [] hz
theorem WT{α:Type}{f:α->List AV}{sz bytes:Nat}{ty:TypeId}{z:List Value}(hf:∀x,(f x).length=sz)(gO:0<sz)(hz:z.length=sz)(h1:∀x,(f x).all cF=true)(hb:bytes<=1024)
  {h:AH} {x:AV} {l:List α} {t:α} {W:Nat->Prop} {K:AV->AH->Prop} (hl:bC f sz ty h x l) (hw:df W x) (hn:l.length<=100000000)
  (hK:∀y h',bC f sz ty h' y (l++[t])->df (h.next<=·) y->(∀i,i<h.next->(∀off n,x≠.sl i off n)->h'.obj i=h.obj i)->h.next<=h'.next->K y h') :
  dK (some (sz,ty,z)) 1 [(0,.agg (f t))] h (fun v h4=>eh (some (sz,bytes,ty)) x v h4 W K):=by
 have jy:dU (fun i=>some (i*sz,sz)) (z.map .sc) [(0,.agg (f t))]=some (f t):=by
  simp only[dU,b_,Nat.zero_mul,hf,zZ,hz,zG,zU,and_self,zV]
  rw[lX (by simp[hf,hz])]
 refine⟨f t,⟨jy,h1 t⟩,?_⟩
 have wO:(l.length+1)*bytes<=140737488355328:=by
  have:(l.length+1)*bytes<=100000001*1024:=Nat.mul_le_mul (by omega) hb
  omega
 have jx:((f t).drop 0).take (1*sz)=f t:=by rw[List.drop_zero,List.take_of_length_le (by rw[hf];omega)]
 rcases hl with⟨rfl,rfl⟩ |⟨id,rfl,ho⟩
 ·refine⟨1,f t,.inr ⟨rfl,_,AH.cg _ _,rfl,by simp[hf],jx.symm⟩,?_⟩
  show if 1=0 then _ else _
  rw[zW (by omega)]
  refine⟨⟨by omega,by simpa using wO⟩,?_⟩
  refine hK _ _ (.inr ⟨_,rfl,?_⟩) ?_ ?_ ?_
  ·rw[AH.cg];simp[aI]
  ·intro i off n he;cases he;simp only[AH.bD];omega
  ·intro i hi _;rw[AH.alloc_old (by simp only[AH.bD];omega),AH.alloc_old hi]
  ·simp only[AH.bD];omega
 ·have hid:=h.lt _ _ ho
  refine⟨1,f t,.inr ⟨rfl,_,AH.cg _ _,rfl,by simp[hf],jx.symm⟩,?_⟩
  show if 1=0 then _ else _
  rw[zW (by omega)]
  have hlen:(l.flatMap f).length=l.length*sz:=gD hf l
  refine⟨rfl,_,⟨hw _ _ _ rfl,by rw[AH.alloc_old hid];exact ho,rfl,rfl,rfl,rfl,by simp[aI,hlen],by omega,wO⟩,?_⟩
  refine hK _ _ (.inr ⟨_,by rw[List.length_append,List.length_singleton],?_⟩) ?_ ?_ ?_
  ·rw[AH.bJ,zX (by simp[AH.bD,AH.fw])]
   simp only[aI,List.flatMap_append,List.flatMap_cons,List.flatMap_nil,List.append_nil]
   rw[List.take_of_length_le (by rw[hlen];exact zU _)]
  ·intro i off n he;cases he;simp only[AH.bD];omega
  ·intro i hi b7
   have:i≠id:=fun e=>b7 0 l.length (by rw[e])
   rw[AH.alloc_old (by simp only[AH.bD,AH.fw];omega),AH.qX this,AH.alloc_old hi]
  ·simp only[AH.bD,AH.fw];omega
end
section
theorem gW{h:AH}{id off:Nat}{cs cells:List AV}{sz:Nat}{ty:TypeId}(ho:h.obj id=some { cells:=cells,sz:=sz,ty:=ty }):(h.put id off cs).obj id=some { cells:=putCells cells off cs,sz:=sz,ty:=ty }:=by rw[AH.Ks ho]
structure Fr (h h':AH) (S:Nat->Prop):Prop where
 next:h.next<=h'.next
 dr:∀id,id<h.next->¬S id->h'.obj id=h.obj id
theorem Fr.refl{h:AH}{S:Nat->Prop}:Fr h h S:=⟨zU _,fun _ _ _=>rfl⟩
theorem Fr.trans{h h1 h2:AH}{S:Nat->Prop}(a:Fr h h1 S)(b:Fr h1 h2 fun id=>S id\/h.next<=id):Fr h h2 S:=
 ⟨zR a.next b.next,fun id h1 h2=>by rw[b.dr id (Nat.lt_of_lt_of_le h1 a.next) (fun hh=>hh.elim h2 (fun hh=>by omega)),a.dr id h1 h2]⟩
theorem Fr.mono{h h1:AH}{S S':Nat->Prop}(a:Fr h h1 S)(b:∀id,S id->S' id):Fr h h1 S':=⟨a.next,fun id h1 h2=>a.dr id h1 fun h=>h2 (b id h)⟩
theorem Fr.alloc{h h1:AH}{S:Nat->Prop}(a:Fr h h1 S)(o:AO):Fr h (h1.alloc o) S:=⟨Nat.le_succ_of_le a.next,fun id hi hs=>by rw[AH.alloc_old (Nat.lt_of_lt_of_le hi a.next)];exact a.dr id hi hs⟩
theorem Fr.put{h h1:AH}{S:Nat->Prop}(a:Fr h h1 S){id off:Nat}{cs:List AV}(hs:S id\/h.next<=id):Fr h (h1.put id off cs) S:=
 ⟨a.next,fun i hi hn=>by rw[AH.iM (fun e=>by subst e;exact hs.elim hn (fun h=>by omega))];exact a.dr i hi hn⟩
theorem Fr.obj{h h1:AH}{S:Nat->Prop}(a:Fr h h1 S){id:Nat}{o:AO}(ho:h.obj id=some o)(hs:¬S id):h1.obj id=some o:=by rw[a.dr id (h.lt _ _ ho) hs,ho]
theorem aH{z:List Value}{sz:Nat}{t:TypeId}{h:AH}{K:AV->AH->Prop}:bn (some z) sz t h K=((z.all (·.oneCell')=true)/\K (.ptr h.next 0) (h.alloc (aI (z.map .sc) sz t))):=rfl
theorem O2{t:TypeId}{v:AV}{h:AH}{KP:AV->AH->Prop}:tg (.kx t v) h KP=KP (.kx t v) h:=rfl
def PF(o:Option AO)(c:Option (List AV))(n off:Nat)(w:Prop)(K:List AV->Prop):Prop:=
 match o,c with
 |some o,some cs=>((match o.kind with |.row=>True |_=>False)/\o.ro=false/\w/\cs.all cF=true/\cs.length=n/\off+n<=o.cells.length)/\K cs
 |_,_=>False
theorem az{n id off:Nat}{x:AV}{h:AH}{W:Nat->Prop}{K:AH->Prop}:aE (some n) (.ptr id off) x h W K=PF (h.obj id) (b_ x) n off (W id) (fun cs=>K (h.put id off cs)):=by
 apply propext
 simp only[aE,PF]
 constructor
 ·rintro⟨o,xg,⟨h1,h2,h3,h4,h5,h6,h7,h8⟩,h9⟩
  rw[h2,h5];simp only[h3]
  exact⟨⟨trivial,h4,h1,h6,h7,h8⟩,h9⟩
 ·intro hh
  cases ho:h.obj id with
  |none=>rw[ho]at hh;exact hh.elim
  |some o=>
   cases hc:b_ x with
   |none=>rw[ho,hc]at hh;exact hh.elim
   |some cs=>
    rw[ho,hc]at hh
    obtain⟨⟨h3,h4,h1,h6,h7,h8⟩,h9⟩:=hh
    refine⟨o,cs,⟨h1,rfl,?_,h4,rfl,h6,h7,h8⟩,h9⟩
    cases hk:o.kind with
    |row=>rfl
    |iter s p=>rw[hk]at h3;exact h3.elim
    |map l=>rw[hk]at h3;exact h3.elim
    |FW b ob=>rw[hk]at h3;exact h3.elim
theorem cn{cells cs:List AV}{sz n off:Nat}{ty:TypeId}{w:Prop}{K:List AV->Prop}:PF (some { cells:=cells,sz:=sz,ty:=ty }) (some cs) n off w K=((w/\cs.all cF=true/\cs.length=n/\off+n<=cells.length)/\K cs):=by simp[PF]
theorem ib{l:List AV}:b_ (.agg l)=some l:=rfl
theorem eY{k:IntKind}{n:Int}:b_ (.sc (.int k n))=some [.sc (.int k n)]:=rfl
theorem qY{s:ByteArray}:b_ (.sc (.string s))=some [.sc (.string s)]:=rfl
theorem uO{b:Bool}:b_ (.sc (.bool b))=some [.sc (.bool b)]:=rfl
theorem Im{a:Option Addr}{n c:Nat}:b_ (.sc (.slice a n c))=some [.sc (.slice a n c)]:=rfl
theorem WJ{a:Option Addr}:b_ (.sc (.pointer a))=some [.sc (.pointer a)]:=rfl
theorem WM:b_ (.sc .nilIface)=some [.sc .nilIface]:=rfl
theorem SP{i o:Nat}:b_ (.ptr i o)=some [.ptr i o]:=rfl
theorem Mx{i o n:Nat}:b_ (.sl i o n)=some [.sl i o n]:=rfl
theorem SQ{t:TypeId}{v:AV}:b_ (.kx t v)=some [.kx t v]:=rfl
theorem WO{f:Fn}{a b:List AV}:b_ (.fn f a b)=some [.fn f a b]:=rfl
theorem ki{h:AH}{id off:Nat}{cs cells:List AV}{sz:Nat}{ty:TypeId}(ho:h.obj id=some { cells:=cells,sz:=sz,ty:=ty }):(h.put id off cs).obj id=some { cells:=putCells cells off cs,sz:=sz,ty:=ty }:=by rw[AH.Ks ho]
theorem nA{a b:Nat}(h:a<b):a≠b/\b≠a/\a≠b+1/\b+1≠a/\a≠b+2/\b+2≠a/\a≠b+3/\b+3≠a/\a≠b+4/\b+4≠a:=by omega
theorem CL{α:Type}(l:List α)(k:Nat):(l.map fun _=>k).sum=l.length*k:=by induction l with |nil=>simp |cons a l ih=>simp[ih,Nat.add_mul,Nat.add_comm]
attribute [simp] aH O2 bZ dU putCells Value.oneCell' cF az cn ib eY qY uO Im WJ WM SP Mx SQ WO
end
section
variable {P:Program} {N:Nat} {W:Nat->Prop}
def H7(P:Program)(N:Nat)(W:Nat->Prop)(ops:Array Oper):List Nat->(St->AH->Prop)->(St->AV->AH->Prop)->St->AH->Prop
 |[],K,_,s,h=>K s h
 |i::r,K,KP,s,h=>match ops[i]? with
  |some o=>match o.guard with
   |none=>match su o.op with
    |true=>qOp P o.op (lx s) h fun v _=>H7 P N W ops r K KP (s.put N o.dst v) h
    |false=>tO P W o.op (lx s) s.ds h (fun v nI h'=>H7 P N W ops r K KP (({ s with ds:=nI }:St).put N o.dst v) h') (KP s)
   |some _=>False
  |none=>False
theorem F3{ops:Array Oper}{K:St->AH->Prop}{KP:St->AV->AH->Prop}{E0:Env}{h0:AH}{w0:World}{Qc:Exit->Act->World->Prop}(mU:Rel E0 h0 w0)
  (hK:∀s h E w a,K s h->Step E0 h0 W w0 E h w->AR E N s a->Qc .normal a w)
  (LO:∀s v h E w a u,KP s v h->Step E0 h0 W w0 E h w->AR E N s a->VR E v u->Qc (.panic [{ v:=u,recovered:=false }]) a w) :
  ∀(l:List Nat)(s:St)(h:AH)(E:Env)(w:World)(a:Act),H7 P N W ops l K KP s h->Step E0 h0 W w0 E h w->AR E N s a->wpOps P ops Qc l a w
 |[],s,h,E,w,a,hp,hs,ha=>hK s h E w a hp hs ha
 |i::r,s,h,E,w,a,hp,hs,ha=>by
  simp only[H7]at hp
  rw[wpOps_cons]
  split at hp
  ·rename_i o ho
   split at hp
   ·rename_i hg
    have hw:Region.wanted o (yielded ops a.tmps)=true:=by unfold Region.wanted;rw[hg]
    unfold Go.wpOp
    simp only[ho,hw,zV]
    refine .inl ?_
    split at hp
    ·obtain⟨av,u,d,h1,h2,h3,h4⟩:=Kq o hs.rel ha hp
     have:=h4 w (fun _ _ _ _=>rfl)
     unfold Oper.wp
     rw[this,Oper.upon_value]
     exact F3 mU hK LO r _ h E w _ h2 hs (ha.put _ h1)
    ·refine Gb o hs.rel ha hp ?_ ?_
     ·intro v nI E' h' w' a' h1 h2 h3
      exact F3 mU hK LO r _ h' E' w' a' h3 (hs.trans mU h1 fun _ _ hm=>.inl hm) h2
     ·intro v E' h' w' u h1 h2 h3
      exact LO s v h' E' w' a u h3 (hs.trans mU h1 fun _ _ hm=>.inl hm) (ha.mono h1.env) h2
   ·exact hp.elim
  ·exact hp.elim
def Rl(P:Program)(f:FuncId)(args:List AV)(h:AH)(M:Nat->Prop)(R:AH->Prop):Prop:=
 ∀E w dR,Rel E h w->cu E args dR->CallsD P f dR.toArray .returning w fun e u' w'=>(∃r,e=.returned r)/\u'=.returning/\∃E' h',Step E h M w E' h' w'/\R h'
def Rm(P:Program)(f:FuncId)(args:List AV)(av:AV)(h:AH)(M:Nat->Prop)(R:AH->Prop):Prop:=
 ∀E w dR u,Rel E h w->cu E args dR->VR E av u->CallsD P f dR.toArray (.panicking [{ v:=u,recovered:=false }]) w fun e u' w'=>(∃r,e=.returned r)/\u'=.panicking [{ v:=u,recovered:=true }]/\∃E' h',Step E h M w E' h' w'/\R h'
section
variable {fn:Func} {M:Nat->Prop} {R:AE->AH->Prop} {E0 E:Env} {h0 h:AH} {w0 w:World} {s:St} {a:Act} {g:FuncId} {cap args:List AV}
def pD(E0:Env)(h0:AH)(M:Nat->Prop)(w0:World)(R:AE->AH->Prop):Ending->World->Prop:=fun e w'=>∃E' h' ae,Step E0 h0 M w0 E' h' w'/\ER E' ae e/\R ae h'
theorem C7(ha:AR E N s a)(oO:s.ds=[⟨.func g,cap,args⟩]):∃vs ws,cu E cap vs/\cu E args ws/\a.defers=[⟨.fn (.func g) vs.toArray,ws.toArray⟩]:=by
 have:=ha.ds
 rw[oO]at this
 generalize a.defers=l at this
 cases this with
 |cons h1 h2=>
  cases h2
  obtain⟨vs,ws,e1,e2,e3,e4⟩:=h1
  rename_i v
  refine⟨vs,ws,e3,e4,?_⟩
  cases v
  simp only at e1 e2
  rw[e1,e2]
theorem wD(hs:Step E0 h0 M w0 E h w)(ha:AR E N s a)(rC:lf P fn.results.toList s h fun vs=>R (.ret (i_ vs)) h):Leaves P fn a.tmps (pD E0 h0 M w0 R) [] .returning w:=by
 obtain⟨v,u,b1,b2,b3⟩:=AY hs.rel ha fn (fun v=>R (.ret v) h) rC
 exact⟨u,b3,E,h,.ret v,hs,b1,b2⟩
theorem K7(mU:Rel E0 h0 w0)(hs:Step E0 h0 M w0 E h w)(ha:AR E N s a)(oO:s.ds=[⟨.func g,cap,args⟩])(he:xX P g=true){M':Nat->Prop}(hM:∀id,id<h.next->M' id->M id\/h0.next<=id)
  (hd:Rl P g (args++cap) h M' fun h'=>lf P fn.results.toList s h' fun vs=>R (.ret (i_ vs)) h'):Leaves P fn a.tmps (pD E0 h0 M w0 R) a.defers .returning w:=by
 obtain⟨vs,ws,e3,e4,e5⟩:=C7 ha oO
 rw[e5]
 refine leaves_cons (by simp) (f:=g) (args:=(ws++vs).toArray) ?_ ?_
 ·have:=rN he (ws.toArray++vs.toArray) w
  simp only[invoke]
  rw[this];simp
 ·refine(hd E w _ hs.rel (e4.append e3)).mono ?_
  rintro e u' w' ⟨⟨r,rfl⟩,rfl,E',h',h1,h2⟩
  simp only[settle]
  exact wD (hs.trans mU h1 hM) (ha.mono h1.env) h2
theorem K9(mU:Rel E0 h0 w0)(hs:Step E0 h0 M w0 E h w)(ha:AR E N s a)(oO:s.ds=[⟨.func g,cap,args⟩])(he:xX P g=true){av:AV}{u:Value}(hu:VR E av u){M':Nat->Prop}(hM:∀id,id<h.next->M' id->M id\/h0.next<=id)
  (hd:Rm P g (args++cap) av h M' fun h'=>lf P fn.results.toList s h' fun vs=>R (.ret (i_ vs)) h'):Leaves P fn a.tmps (pD E0 h0 M w0 R) a.defers (.panicking [{ v:=u,recovered:=false }]) w:=by
 obtain⟨vs,ws,e3,e4,e5⟩:=C7 ha oO
 rw[e5]
 refine leaves_cons (by simp) (f:=g) (args:=(ws++vs).toArray) ?_ ?_
 ·have:=rN he (ws.toArray++vs.toArray) w
  simp only[invoke]
  rw[this];simp
 ·refine(hd E w _ u hs.rel (e4.append e3) hu).mono ?_
  rintro e u' w' ⟨⟨r,rfl⟩,rfl,E',h',h1,h2⟩
  simp only[settle,List.dropWhile_nil]
  exact wD (hs.trans mU h1 hM) (ha.mono h1.env) h2
end
def TC(P:Program)(N:Nat)(W:Nat->Prop)(E0:Env)(h0:AH)(w0:World)(c:Code)(Qc:Exit->Act->World->Prop)(s:St)(h:AH):Prop:=∀E w a,Step E0 h0 W w0 E h w->AR E N s a->c.wp P Qc a w
def D7:bU:=fun _ _ _=>False
def J8(N:Nat)(W:Nat->Prop)(E0:Env)(h0:AH)(w0:World)(Qc:Exit->Act->World->Prop):ck:=fun x s h=>∀e E w a,XR x e->Step E0 h0 W w0 E h w->AR E N s a->Qc e a w
variable {E0:Env} {h0:AH} {w0:World} {Qc:Exit->Act->World->Prop} {s:St} {h:AH}
theorem Q9(hm:P.follows .mixedOrders=true)(mU:Rel E0 h0 w0){pl:dz}{c:Code}(cA:kl P pl c=true)(hp:aw P N W pl c (J8 N W E0 h0 w0 Qc) D7 s h):TC P N W E0 h0 w0 c Qc s h:=by
 intro E w a hs ha
 refine wp_mono (pL hm c _ _ s h cA hp E w a hs.rel ha) ?_
 rintro e a' w' (⟨x,E',h',s',a1,a2,a3,a4⟩ |⟨v,u,E',h',ds,a1,a2,a3,a4,a5⟩)
 ·exact a4 e E' w' a' a1 (hs.trans mU a2 fun _ _ hm=>.inl hm) a3
 ·exact a5.elim
theorem GM{x y:Code}(hx:TC P N W E0 h0 w0 x (fun e a w=>match e with |.normal=>y.wp P Qc a w |e=>Qc e a w) s h):TC P N W E0 h0 w0 (.seq x y) Qc s h:=by
 intro E w a hs ha
 refine wp_seq (wp_mono (hx E w a hs ha) ?_)
 intro e a' w' hq
 cases e<;>exact hq
theorem pC(hm:P.follows .mixedOrders=true)(mU:Rel E0 h0 w0){pl:dz}{c x y:Code}(hc:c=.seq x y)(cA:kl P pl x=true)(hp:aw P N W pl x (bL (TC P N W E0 h0 w0 y Qc) (J8 N W E0 h0 w0 Qc)) D7 s h):TC P N W E0 h0 w0 c Qc s h:=by
 subst hc
 refine GM (Q9 hm mU cA (mo x ?_ (fun _ _ _ h=>h) hp))
 intro e s' h' hq
 intro e' E w a hx hs ha
 cases e<;>cases e'<;>first |exact hx.elim |skip
 ·exact hq E w a hs ha
 ·exact hq _ E w a hx hs ha
 ·exact hq _ E w a hx hs ha
 ·exact hq _ E w a hx hs ha
theorem MF(mU:Rel E0 h0 w0){id:Nat}{c:Code}{ops:Array Oper}(hc:c=.region id ops false){K:St->AH->Prop}{KP:St->AV->AH->Prop}
  (hK:∀s h E w a,K s h->Step E0 h0 W w0 E h w->AR E N s a->Qc .normal a w)
  (LO:∀s v h E w a u,KP s v h->Step E0 h0 W w0 E h w->AR E N s a->VR E v u->Qc (.panic [{ v:=u,recovered:=false }]) a w)
  (hp:H7 P N W ops (List.range ops.size) K KP s h):TC P N W E0 h0 w0 c Qc s h:=by
 subst hc
 intro E w a hs ha
 exact wp_region (F3 mU hK LO _ s h E w a hp hs ha)
theorem Au{id:Nat}{c b:Code}(hc:c=.block id b)(hp:TC P N W E0 h0 w0 b (Exit.inBlock id Qc) s h):TC P N W E0 h0 w0 c Qc s h:=by
 subst hc
 intro E w a hs ha
 exact wp_block (hp E w a hs ha)
theorem Iq{ι:Type}{c b:Code}(hc:c=.loop b)(I:ι->St->AH->Prop)(μ:ι->Nat)(i:ι)(wW:I i s h)
  (step:∀i s h,I i s h->TC P N W E0 h0 w0 b (fun e a w=>match e with |.normal=>∃i' s' h' E',μ i'<μ i/\I i' s' h'/\Step E0 h0 W w0 E' h' w/\AR E' N s' a |e=>Qc e a w) s h):TC P N W E0 h0 w0 c Qc s h:=by
 subst hc
 intro E w a hs ha
 refine wp_loop_rounds (μ i+1) ?_
 have key:∀(n:Nat)(i:ι)(s:St)(h:AH)(E:Env)(w:World)(a:Act),μ i<n->I i s h->Step E0 h0 W w0 E h w->AR E N s a->Code.rounds P b Qc n a w:=by
  intro n
  induction n with
  |zero=>intro i s h E w a aJ;omega
  |succ n ih=>
   intro i s h E w a aJ hi hs ha
   rw[rounds_succ]
   refine wp_mono (step i s h hi E w a hs ha) ?_
   intro e a' w' hq
   cases e with
   |normal=>
    obtain⟨i',s',h',E',h1,h2,h3,h4⟩:=hq
    exact ih i' s' h' E' w' a' (by omega) h2 h3 h4
   |_=>exact hq
 exact key _ i s h E w a (by omega) wW hs ha
end
section
variable {P:Program}
abbrev VK:=List AV->AH->Prop
abbrev DK:=(Nat->AV)->AH->Prop
def AI(G:VK->VK):Nat->VK
 |0=>fun _ _=>False
 |n+1=>G (AI G n)
def dT(G:VK->VK):VK:=fun vs h=>∃n,AI G n vs h
theorem cJ{ι:Type}{G:VK->VK}(I:ι->VK)(μ:ι->Nat)(i:ι){vs:List AV}{h:AH}(h0:I i vs h)
  (step:∀(K:VK) i vs h,I i vs h->(∀i' PC h',μ i'<μ i->I i' PC h'->K PC h')->G K vs h):dT G vs h:=by
 have key:∀n i vs h,μ i<n->I i vs h->AI G n vs h:=by
  intro n
  induction n with
  |zero=>intro i vs h aJ;omega
  |succ n ih=>intro i vs h aJ hi;exact step _ i vs h hi fun i' PC h' h1 h2=>ih i' PC h' (by omega) h2
 exact⟨μ i+1,key _ i vs h (by omega) h0⟩
def ly(P:Program):List ResultVar->List AV->AH->(List AV->Prop)->Prop
 |[],_,_,K=>K []
 |.tmp _::r,v::vs,h,K=>ly P r vs h fun l=>K (v::l)
 |.cell _ t::r,v::vs,h,K=>al (ke P t) (eM P t) v h fun u _=>ly P r vs h fun l=>K (u::l)
 |_,_,_,_=>False
def rV:ResultVar->Nat
 |.tmp t=>t
 |.cell a _=>a
theorem GD{tm:Nat->AV}{ds:List eT}{h:AH}:∀(rs:List ResultVar)(K:List AV->Prop),lf P rs ⟨tm,ds⟩ h K=ly P rs (rs.map fun r=>tm (rV r)) h K
 |[],_=>rfl
 |.tmp t::rs,K=>by
  simp only[lf,List.map_cons,ly,rV]
  exact GD rs _
 |.cell a t::rs,K=>by
  simp only[lf,List.map_cons,ly,rV]
  congr 1
  funext v _
  exact GD rs _
def aK(P:Program)(rs:List ResultVar)(R:AE->AH->Prop):VK:=fun vs h=>ly P rs vs h fun l=>R (.ret (i_ l)) h
theorem Ig{rs:List ResultVar}{R:AE->AH->Prop}{tm:Nat->AV}{h:AH}:cM P rs R .ret ⟨tm,[]⟩ h=aK P rs R (rs.map fun r=>tm (rV r)) h:=by
 show([]=[]/\_)=_
 rw[GD]
 exact propext ⟨fun h=>h.2,fun h=>⟨rfl,h⟩⟩
theorem SO{rs:List ResultVar}{R:AE->AH->Prop}{tm:Nat->AV}{h:AH}:cM P rs R .normal ⟨tm,[]⟩ h=aK P rs R (rs.map fun r=>tm (rV r)) h:=Ig
attribute [simp] aK ly
end
section
variable {P:Program} {N:Nat} {W:Nat->Prop} {pl:dz}
def mP(o:Oper):Bool:=match o.op with |.defer ..=>false |_=>true
def sf:Code->Bool
 |.region _ ops _=>ops.all mP
 |.seq a b |.cond _ a b=>sf a&&sf b
 |.block _ c |.loop c |.scope c=>sf c
 |_=>true
theorem X2{W:Nat->Prop}{o:Oper}(ho:mP o=true){ρ:Operand->AV}{ds:List eT}{h:AH}{K K':AV->List eT->AH->Prop}{KP xB:AV->AH->Prop}(hk:∀v h',K v ds h'->K' v ds h')(FE:∀v h',KP v h'->xB v h')
  (hp:tO P W o.op ρ ds h K KP):tO P W o.op ρ ds h K' xB:=by
 unfold mP at ho
 revert ho hp
 cases o.op<;>intro ho hp<;>simp only[tO]at hp ⊢<;>try exact hp.elim
 case alloc=>exact yZ (fun v h'=>hk v h') hp
 case box=>exact DJ (fun v h'=>hk v h') hp
 case store=>exact yX (fun h'=>hk aa h') hp
 case buildSlice=>exact DL (fun v h'=>hk v h') hp
 case makeSlice=>exact Gc (fun v h'=>hk v h') hp
 case makeMap t r=>
  cases r<;>simp only at hp ⊢
  exact DI (fun v h'=>hk v h') hp
 case mapUpdate=>exact qL (fun h'=>hk aa h') hp
 case insert=>exact qL (fun h'=>hk aa h') hp
 case range=>exact yY (fun v h'=>hk v h') hp
 case next x b=>
  cases b<;>simp only at hp ⊢
  exact BK (fun v h'=>hk v h') hp
 case panic=>unfold tg at *;split at hp<;>simp_all
 case defer c=>cases ho
 case call c=>
  split at hp
  ·exact DM (fun v h'=>hk v h') hp
  split at hp
  ·exact BL (fun v h'=>hk v h') hp
  ·split at hp
   ·exact GI (fun v h'=>hk v h') FE hp
   ·exact hp.elim
theorem A0(s:St)(d:Option Nat)(v:AV):(s.put N d v).ds=s.ds:=by
 unfold St.put
 split
 ·rfl
 ·split<;>rfl
section
variable {ds:List eT} {QP fk:bU}
theorem SV(eK:∀v h,QP ds v h->fk ds v h){Hd:Nat->Prop}{held:Bool}{o:Oper}(ho:mP o=true){K K':St->AH->Prop}(hk:∀s h,s.ds=ds->K s h->K' s h){s:St}{h:AH}(hs:s.ds=ds)(hp:qO P N W Hd QP held o K s h) :
  qO P N W Hd fk held o K' s h:=by
 unfold qO at *
 split at hp
 ·refine qOp_mono (fun v d _ hh=>?_) hp
  unfold cA at *
  split at hh
  ·exact hk _ _ (by rw[A0];exact hs) hh
  ·exact⟨hh.1,hk _ _ (by rw[A0];exact hs) hh.2⟩
 ·exact X2 ho (fun v h'=>hk _ _ (by rw[A0];exact hs)) (fun v h'=>by rw[hs];exact eK v h') hp
theorem xW(eK:∀v h,QP ds v h->fk ds v h){Wf:Nat->Nat->Prop}{Hd:Nat->Nat->Prop}{ops:Array Oper}(ho:ops.all mP=true):∀(is:List (Nat×Bool)){K K':St->AH->Prop},(∀s h,s.ds=ds->K s h->K' s h)->∀{s:St}{h:AH},s.ds=ds->mX P N Wf Hd QP ops is K s h->mX P N Wf Hd fk ops is K' s h
 |[],_,_,hk,_,_,hs,hp=>hk _ _ hs hp
 |x::is,K,K',hk,s,h,hs,hp=>by
  simp only[mX]at hp ⊢
  split at hp
  ·rename_i o hx
   exact SV eK (Array.all_eq_true_iff_forall_mem.1 ho o (Array.mem_of_getElem? hx)) (fun s h hs=>xW eK ho is hk hs) hs hp
  ·exact hp.elim
theorem Kd{ops:Array Oper}:∀(is:List (Nat×Bool))(s:St),(CN N ops is s).ds=s.ds
 |[],_=>rfl
 |x::is,s=>by simp only[CN];rw[Kd is,A0]
theorem BI(eK:∀v h,QP ds v h->fk ds v h){Wf:Nat->Nat->Prop}{Hd:Nat->Nat->Prop}{ops:Array Oper}(ho:ops.all mP=true):∀(gs:List (Option (Nat×Bool)×List (Nat×Bool))){K K':St->AH->Prop},(∀s h,s.ds=ds->K s h->K' s h)->∀{s:St}{h:AH},s.ds=ds->kL P N Wf Hd QP ops gs K s h->kL P N Wf Hd fk ops gs K' s h
 |[],_,_,hk,_,_,hs,hp=>hk _ _ hs hp
 |(none,is)::gs,K,K',hk,s,h,hs,hp=>by
  simp only[kL]at hp ⊢
  exact xW eK ho is (fun s h hs=>BI eK ho gs hk hs) hs hp
 |(some (j,want),is)::gs,K,K',hk,s,h,hs,hp=>by
  simp only[kL]at hp ⊢
  split at hp
  ·exact GG (xW eK ho is (fun s h hs=>BI eK ho gs hk hs) hs) (BI eK ho gs hk (by rw[Kd];exact hs)) hp
  ·exact hp.elim
mutual
theorem XZ(eK:∀v h,QP ds v h->fk ds v h){Wf:Nat->Nat->Prop}{Hd:Nat->Nat->Prop}{ops:Array Oper}(ho:ops.all mP=true){K K':St->AH->Prop}(hk:∀s h,s.ds=ds->K s h->K' s h):∀(w:Way){s:St}{h:AH},s.ds=ds->wZ P N Wf Hd QP ops w K s h->wZ P N Wf Hd fk ops w K' s h
 |.mk path [],s,h,hs,hp=>by
  unfold wZ at hp ⊢
  exact xW eK ho path hk hs hp
 |.mk path (w::ws),s,h,hs,hp=>by
  unfold wZ at hp ⊢
  exact xW eK ho path (fun s h hs=>F1 eK ho hk (w::ws) hs) hs hp
termination_by w=>SizeOf.sizeOf w
theorem F1(eK:∀v h,QP ds v h->fk ds v h){Wf:Nat->Nat->Prop}{Hd:Nat->Nat->Prop}{ops:Array Oper}(ho:ops.all mP=true){K K':St->AH->Prop}(hk:∀s h,s.ds=ds->K s h->K' s h):∀(ws:List Way){s:St}{h:AH},s.ds=ds->nn P N Wf Hd QP ops ws K s h->nn P N Wf Hd fk ops ws K' s h
 |[],s,h,hs,hp=>by unfold nn;trivial
 |w::r,s,h,hs,hp=>by
  unfold nn at hp ⊢
  exact⟨XZ eK ho hk w hs hp.1,F1 eK ho hk r hs hp.2⟩
termination_by ws=>SizeOf.sizeOf ws
end
theorem QZ(eK:∀v h,QP ds v h->fk ds v h){Wf:Nat->Nat->Prop}{Hd:Nat->Nat->Prop}{ops:Array Oper}(ho:ops.all mP=true){K K':St->AH->Prop}(hk:∀s h,s.ds=ds->K s h->K' s h){s:St}{h:AH}{p:th}(hs:s.ds=ds)(hp:sH P N Wf Hd QP ops p K s h):sH P N Wf Hd fk ops p K' s h:=by
 unfold sH at *
 split at hp
 ·exact BI eK ho _ hk hs hp
 ·exact BI eK ho _ (fun s h hs=>F1 eK ho hk _ hs) hs hp
theorem ME(eK:∀v h,QP ds v h->fk ds v h){ops:Array Oper}(ho:ops.all mP=true){id:Nat}{K K':St->AH->Prop}(hk:∀s h,s.ds=ds->K s h->K' s h){s:St}{h:AH}(hs:s.ds=ds)(hp:kF P N W QP pl id ops K s h) :
  kF P N W fk pl id ops K' s h:=by
 unfold kF at *
 split at hp
 ·exact xW eK ho _ hk hs hp
 ·split at hp
  ·exact QZ eK ho hk hs hp
  ·obtain⟨Hd,h1,h2⟩:=hp;exact⟨Hd,h1,QZ eK ho hk hs h2⟩
theorem Hn{K K':St->AH->Prop}{Q Q':ck}(hk:∀s h,s.ds=ds->K s h->K' s h)(hq:∀x s h,s.ds=ds->Q x s h->Q' x s h):∀x s h,s.ds=ds->bL K Q x s h->bL K' Q' x s h:=by
 intro x s h hs hp
 cases x
 ·exact hk _ _ hs hp
 ·exact hq (.exit _) _ _ hs hp
 ·exact hq (.goto _) _ _ hs hp
 ·exact hq .ret _ _ hs hp
theorem xn(eK:∀v h,QP ds v h->fk ds v h):∀(c:Code){Q Q':ck},sf c=true->(∀x s h,s.ds=ds->Q x s h->Q' x s h)->∀{s:St}{h:AH},s.ds=ds->aw P N W pl c Q QP s h->aw P N W pl c Q' fk s h
 |.skip,_,_,_,hq,_,_,hs,hp=>hq _ _ _ hs hp
 |.label _,_,_,_,hq,_,_,hs,hp=>hq _ _ _ hs hp
 |.exit _,_,_,_,hq,_,_,hs,hp=>hq _ _ _ hs hp
 |.goto _,_,_,_,hq,_,_,hs,hp=>hq _ _ _ hs hp
 |.ret,_,_,_,hq,_,_,hs,hp=>hq _ _ _ hs hp
 |.rangeFunc ..,_,_,_,_,_,_,_,hp=>hp.elim
 |.refuse _,_,_,_,_,_,_,_,hp=>hp.elim
 |.region _ ops _,_,_,hd,hq,_,_,hs,hp=>ME eK hd (hq .normal) hs hp
 |.seq a b,_,_,hd,hq,_,_,hs,hp=>by
  simp only[sf,yC]at hd
  exact xn eK a hd.1 (Hn (fun _ _ hs=>xn eK b hd.2 hq hs) hq) hs hp
 |.cond c a b,_,_,hd,hq,_,_,hs,hp=>by
  simp only[sf,yC]at hd
  exact GH (xn eK a hd.1 hq hs) (xn eK b hd.2 hq hs) hp
 |.block id c,Q,Q',hd,hq,_,_,hs,hp=>by
  refine xn eK c (Q:=eI id Q) hd ?_ hs hp
  intro x s h hs hp
  cases x with
  |exit j=>
   simp only[eI]at hp ⊢
   split at hp
   ·rename_i he;rw[zX he];exact hq _ _ _ hs hp
   ·rename_i he;rw[zW he];exact hq _ _ _ hs hp
  |normal=>exact hq .normal _ _ hs hp
  |goto l=>exact hq (.goto l) _ _ hs hp
  |ret=>exact hq .ret _ _ hs hp
 |.scope c,Q,Q',hd,hq,_,_,hs,hp=>by
  refine xn eK c (Q:=pe Q) hd ?_ hs hp
  intro x s h hs hp
  cases x with
  |exit j=>exact hq (.exit j) _ _ hs hp
  |normal=>exact hq .normal _ _ hs hp
  |goto l=>exact hp.elim
  |ret=>exact hq .ret _ _ hs hp
 |.loop c,Q,Q',hd,hq,s,h,hs,hp=>by
  obtain⟨n,hp⟩:=hp
  refine⟨n,?_⟩
  have key:∀(n:Nat)(s:St)(h:AH),s.ds=ds->pN (aw P N W pl c) n Q QP s h->pN (aw P N W pl c) n Q' fk s h:=by
   intro n
   induction n with
   |zero=>intro s h _ hp;exact hp.elim
   |succ n ih=>intro s h hs hp;exact xn eK c hd (Hn (fun s h hs=>ih s h hs) hq) hs hp
  exact key n s h hs hp
end
abbrev WK:=Nat->Prop
abbrev EK:=Nat->VK
abbrev PK:=AV->AH->Prop
abbrev kP(QP:AV->AH->Prop):bU:=fun _=>QP
theorem Tu{F:ck->bU->St->AH->Prop}{Q:ck}{QP:bU}{L:(Nat->AV)->List AV}{G:VK->VK}
  (hs:∀(Kn:VK)(KQ:St->AH->Prop),(∀s h,KQ s h=Kn (L s.tm) h)->∀s h,F (bL KQ Q) QP s h=G Kn (L s.tm) h):∀s h,lz F Q QP s h=dT G (L s.tm) h:=by
 intro s h
 have key:∀n s h,pN F n Q QP s h=AI G n (L s.tm) h:=by
  intro n
  induction n with
  |zero=>intro s h;rfl
  |succ n ih=>intro s h;exact hs (AI G n) (fun s h=>pN F n Q QP s h) ih s h
 unfold lz dT
 exact congrArg Exists (funext fun n=>key n s h)
theorem Wt{rs:List ResultVar}{R:AE->AH->Prop}{c:Code}{q:ck}{s:St}{h:AH}(hd:sf c=true)(hq:∀s h,q .ret s h=aK P rs R (rs.map fun r=>s.tm (rV r)) h)(hn:∀s h,q .normal s h=aK P rs R (rs.map fun r=>s.tm (rV r)) h)
  (he:∀j s h,¬q (.exit j) s h) (hg:∀l s h,¬q (.goto l) s h) (hs:s.ds=[]) (hp:aw P N W pl c q (kP fun v h=>R (.b6 v) h) s h):aw P N W pl c (cM P rs R) (bx R) s h:=by
 refine xn (fun v h hh=>⟨rfl,hh⟩) c hd (fun x s h hs hh=>?_) hs hp
 obtain⟨tm,ds⟩:=s
 simp only at hs
 subst hs
 cases x with
 |ret=>rw[Ig];rw[hq]at hh;exact hh
 |normal=>rw[SO];rw[hn]at hh;exact hh
 |exit j=>exact(he j _ _ hh).elim
 |goto l=>exact(hg l _ _ hh).elim
end
section
theorem Fr.iJ{h h1:AH}{S:Nat->Prop}(a:Fr h h1 S){id:Nat}{k:Kind}(hs:S id\/h.next<=id):Fr h (h1.iJ id k) S:=
 ⟨a.next,fun i hi hn=>by rw[AH.pG,zW (fun e=>by subst e;exact hs.elim hn (fun h=>by omega))];exact a.dr i hi hn⟩
theorem Fr.EI{h h1:AH}(a:Fr h h1 fun _=>False){id:Nat}{k:Kind}(hs:h.next<=id):Fr h (h1.iJ id k) fun _=>False:=a.iJ (.inr hs)
theorem decode_ascii(s:ByteArray)(i:Nat)(h:i<s.size)(hc:s[i].toNat<128):Utf8.decode s i=(s[i].toNat,1):=by
 have hg:s.get! i=s[i]:=by
  cases s with
  |mk d=>
   show d[i]! = d[i]'h
   exact getElem!_pos d i h
 unfold Utf8.decode
 simp only[Nat.add_zero,hg]
 rw[zX hc]
theorem bG{h:AH}{i j:Nat}{a b:AO}(hi:h.obj i=some a)(hj:h.obj j=some b)(b7:a.ty≠b.ty):i≠j:=fun e=>by subst e;rw[hi]at hj;exact b7 (by rw[Option.some.inj hj])
theorem bC.bp{α:Type}{f:α->List AV}{sz:Nat}{ty:TypeId}{h h':AH}{S:Nat->Prop}{x:AV}{l:List α}(hl:bC f sz ty h x l)(hf:Fr h h' S)(hx:∀id,x=.sl id 0 l.length->¬S id):bC f sz ty h' x l:=by
 rcases hl with hl |⟨id,rfl,ho⟩
 ·exact .inl hl
 ·exact .inr ⟨id,rfl,hf.obj ho (hx id rfl)⟩
theorem nU(A:List AV):∀(cs B:List AV)(o:Nat),putCells (A++B) (A.length+o) cs=A++putCells B o cs
 |[],B,o=>rfl
 |c::cs,B,o=>by
  simp only[putCells]
  rw[List.set_append_right _ _ (by omega),Nat.add_sub_cancel_left,Nat.add_assoc,nU A cs (B.set o c) (o+1)]
theorem qF:∀(cs X Y:List AV),cs.length=X.length->putCells (X++Y) 0 cs=cs++Y
 |[],X,Y,h=>by have:X=[]:=List.length_eq_zero_iff.1 (by simpa using h.symm);subst this;rfl
 |c::cs,[],Y,h=>by simp at h
 |c::cs,x::X,Y,h=>by
  have h':cs.length=X.length:=by simpa using h
  have:=nU [c] cs (X++Y) 0
  simp only[putCells,List.cons_append,List.set_cons_zero,List.singleton_append,List.nil_append,List.length_singleton,Nat.add_zero,zG]at this ⊢
  rw[this,qF cs X Y h']
theorem D2{α:Type}{f:α->List AV}{k:Nat}(hf:∀x,(f x).length=k)(A B:List α)(x y:α):putCells ((A++x::B).flatMap f) (A.length*k) (f y)=(A++y::B).flatMap f:=by
 simp only[List.flatMap_append,List.flatMap_cons]
 have h1:=nU (A.flatMap f) (f y) (f x++B.flatMap f) 0
 rw[gD hf,Nat.add_zero]at h1
 rw[h1,qF _ _ _ (by rw[hf,hf])]
theorem acB{α:Type}{f:α->List AV}{sz bytes:Nat}{ty:TypeId}{z:List Value}(hf:∀x,(f x).length=sz)(gO:0<sz)(hz:z.length=sz+sz)(h1:∀x,(f x).all cF=true)(hb:bytes<=1024)
  {h:AH} {s t:α} {W:Nat->Prop} {K:AV->AH->Prop}
  (hK:∀y h',bC f sz ty h' y [s,t]->df (h.next<=·) y->Fr h h' (fun _=>False)->K y h') :
  dK (some (sz,ty,z)) 2 [(0,.agg (f s)),(1,.agg (f t))] h (fun v h4=>eh (some (sz,bytes,ty)) aV v h4 W K):=by
 have e1:putCells (z.map AV.sc) 0 (f s)=f s++(z.map AV.sc).drop sz:=by
  conv=>lhs;rw[<-List.take_append_drop sz (z.map AV.sc)]
  rw[qF _ _ _ (by rw[hf];simp;omega)]
 have e2:putCells (f s++(z.map AV.sc).drop sz) sz (f t)=f s++f t:=by
  have:=nU (f s) (f t) ((z.map AV.sc).drop sz) 0
  rw[hf,Nat.add_zero]at this
  rw[this]
  have:=qF (f t) ((z.map AV.sc).drop sz) [] (by rw[hf];simp;omega)
  rw[List.append_nil,List.append_nil]at this
  rw[this]
 have jy:dU (fun i=>some (i*sz,sz)) (z.map .sc) [(0,.agg (f s)),(1,.agg (f t))]=some (f s++f t):=by
  simp only[dU,ib,Nat.zero_mul,Nat.one_mul,zG,hf,zH]
  rw[zX (by simp;omega),e1,zX (by simp[hf];omega),e2]
 refine⟨_,⟨jy,by simp only[List.all_append,h1,Bool.and_self]⟩,2,f s++f t,.inr ⟨rfl,_,AH.cg _ _,rfl,by simp[hf];omega,?_⟩,?_⟩
 ·rw[List.drop_zero,List.take_of_length_le (by simp[hf];omega)]
 ·show if 2=0 then _ else _
  rw[zW (by omega)]
  refine⟨⟨by omega,by omega⟩,?_⟩
  refine hK _ _ (.inr ⟨_,rfl,?_⟩) ?_ ((Fr.refl.alloc _).alloc _)
  ·rw[AH.cg];simp[aI]
  ·intro i off n he;cases he;simp only[AH.bD];omega
theorem sN{α:Type}{f:α->List AV}{sz bytes:Nat}{ty:TypeId}{z:List Value}(hf:∀x,(f x).length=sz)(gO:0<sz)(hz:z.length=sz)(h1:∀x,(f x).all cF=true)(hb:bytes<=1024)
  {h:AH} {x:AV} {l:List α} {t:α} {W:Nat->Prop} {K:AV->AV->AH->Prop} (hl:bC f sz ty h x l) (hw:df W x) (hn:l.length<=100000000)
  (hK:∀v y h',bC f sz ty h' y (l++[t])->df (h.next<=·) y->Fr h h' (fun i=>∃off n,x=.sl i off n)->K v y h') :
  dK (some (sz,ty,z)) 1 [(0,.agg (f t))] h (fun v h4=>eh (some (sz,bytes,ty)) x v h4 W (K v)):=by
 exact WT hf gO hz h1 hb hl hw hn (fun y h' a b c d=>hK (.sl h.next 0 1) y h' a b ⟨d,fun i hi hs=>c i hi (fun off n he=>hs ⟨off,n,he⟩)⟩)
theorem X_{α:Type}{f:α->List AV}{sz bytes:Nat}{ty:TypeId}{z:List Value}(hf:∀x,(f x).length=sz)(gO:0<sz)(hz:z.length=sz+sz)(h1:∀x,(f x).all cF=true)(hb:bytes<=1024)
  {h:AH} {s t:α} {W:Nat->Prop} {K:AV->AV->AH->Prop}
  (hK:∀v y h',bC f sz ty h' y [s,t]->df (h.next<=·) y->Fr h h' (fun _=>False)->K v y h') :
  dK (some (sz,ty,z)) 2 [(0,.agg (f s)),(1,.agg (f t))] h (fun v h4=>eh (some (sz,bytes,ty)) aV v h4 W (K v)):=by
 exact acB hf gO hz h1 hb (hK (.sl h.next 0 2))
theorem bC.sl{α:Type}{f:α->List AV}{sz:Nat}{ty:TypeId}{h:AH}{y:AV}{l:List α}(hl:bC f sz ty h y l)(b7:l≠[]):∃id,y=.sl id 0 l.length:=by
 rcases hl with⟨_,h2⟩ |⟨id,h2,_⟩
 ·exact absurd h2 b7
 ·exact⟨id,h2⟩
theorem Q7{α:Type}{f:α->List AV}{sz bytes:Nat}{ty:TypeId}{z:List Value}(hf:∀x,(f x).length=sz)(gO:0<sz)(hz:z.length=sz)(hb:bytes<=1024)
  {h:AH} {x:AV} {l:List α} {t:α} {W:Nat->Prop} {K:AV->AV->AH->Prop} (h1:(f t).all cF=true) (hl:bC f sz ty h x l) (hw:df W x) (hn:l.length<=100000000)
  (hK:∀y h',bC f sz ty h' y (l++[t])->df (h.next<=·) y->(∀i,i<h.next->(∀off n,x≠.sl i off n)->h'.obj i=h.obj i)->h.next<=h'.next->K (.sl h.next 0 1) y h') :
  dK (some (sz,ty,z)) 1 [(0,.agg (f t))] h (fun v h4=>eh (some (sz,bytes,ty)) x v h4 W (K v)):=by
 have jy:dU (fun i=>some (i*sz,sz)) (z.map .sc) [(0,.agg (f t))]=some (f t):=by
  simp only[dU,b_,Nat.zero_mul,hf,zZ,hz,zG,zU,and_self,zV]
  rw[lX (by simp[hf,hz])]
 refine⟨f t,⟨jy,h1⟩,?_⟩
 have wO:(l.length+1)*bytes<=140737488355328:=by
  have:(l.length+1)*bytes<=100000001*1024:=Nat.mul_le_mul (by omega) hb
  omega
 have jx:((f t).drop 0).take (1*sz)=f t:=by rw[List.drop_zero,List.take_of_length_le (by rw[hf];omega)]
 rcases hl with⟨rfl,rfl⟩ |⟨id,rfl,ho⟩
 ·refine⟨1,f t,.inr ⟨rfl,_,AH.cg _ _,rfl,by simp[hf],jx.symm⟩,?_⟩
  show if 1=0 then _ else _
  rw[zW (by omega)]
  refine⟨⟨by omega,by simpa using wO⟩,?_⟩
  refine hK _ _ (.inr ⟨_,rfl,?_⟩) ?_ ?_ ?_
  ·rw[AH.cg];simp[aI]
  ·intro i off n he;cases he;simp only[AH.bD];omega
  ·intro i hi _;rw[AH.alloc_old (by simp only[AH.bD];omega),AH.alloc_old hi]
  ·simp only[AH.bD];omega
 ·have hid:=h.lt _ _ ho
  refine⟨1,f t,.inr ⟨rfl,_,AH.cg _ _,rfl,by simp[hf],jx.symm⟩,?_⟩
  show if 1=0 then _ else _
  rw[zW (by omega)]
  have hlen:(l.flatMap f).length=l.length*sz:=gD hf l
  refine⟨rfl,_,⟨hw _ _ _ rfl,by rw[AH.alloc_old hid];exact ho,rfl,rfl,rfl,rfl,by simp[aI,hlen],by omega,wO⟩,?_⟩
  refine hK _ _ (.inr ⟨_,by rw[List.length_append,List.length_singleton],?_⟩) ?_ ?_ ?_
  ·rw[AH.bJ,zX (by simp[AH.bD,AH.fw])]
   simp only[aI,List.flatMap_append,List.flatMap_cons,List.flatMap_nil,List.append_nil]
   rw[List.take_of_length_le (by rw[hlen];exact zU _)]
  ·intro i off n he;cases he;simp only[AH.bD];omega
  ·intro i hi b7
   have:i≠id:=fun e=>b7 0 l.length (by rw[e])
   rw[AH.alloc_old (by simp only[AH.bD,AH.fw];omega),AH.qX this,AH.alloc_old hi]
  ·simp only[AH.bD,AH.fw];omega
def cb{α:Type}(f:α->List AV)(sz:Nat)(ty:TypeId)(h:AH)(x:AV)(l:List α):Prop:=
 (x=aV/\l=[])\/(∃a c,x=.sc (.slice a 0 c)/\l=[])\/∃id rest ro mv,x=.sl id 0 l.length/\(ro=false->mv=ty)/\h.obj id=some { cells:=l.flatMap f++rest,sz:=sz,ty:=mv,ro:=ro,kind:=.row }
theorem bC.gy{α:Type}{f:α->List AV}{sz:Nat}{ty:TypeId}{h:AH}{x:AV}{l:List α}(hl:bC f sz ty h x l):cb f sz ty h x l:=by
 rcases hl with hl |⟨id,h1,h2⟩
 ·exact .inl hl
 ·exact .inr (.inr ⟨id,[],false,ty,h1,fun _=>rfl,by simpa[aI] using h2⟩)
theorem cb.fr{α:Type}{f:α->List AV}{sz:Nat}{ty:TypeId}{h h':AH}{S:Nat->Prop}{x:AV}{l:List α}(hl:cb f sz ty h x l)(hf:Fr h h' S)(hs:∀id o,h.obj id=some o->(o.ro=false->o.ty=ty)->¬S id):cb f sz ty h' x l:=by
 rcases hl with hl |hl |⟨id,rest,ro,mv,h1,h3,h2⟩
 ·exact .inl hl
 ·exact .inr (.inl hl)
 ·exact .inr (.inr ⟨id,rest,ro,mv,h1,h3,hf.obj h2 (hs id _ h2 h3)⟩)
theorem cb.be{α:Type}{f:α->List AV}{sz:Nat}{ty:TypeId}{h h':AH}{x:AV}{l:List α}(hl:cb f sz ty h x l)(hf:Fr h h' fun _=>False):cb f sz ty h' x l:=hl.fr hf fun _ _ _ _ h=>h
theorem cb.len{α:Type}{f:α->List AV}{sz:Nat}{ty:TypeId}{h:AH}{x:AV}{l:List α}(hl:cb f sz ty h x l):(a_ x=false)/\∀K:AV->Prop,bO x K=K (.sc (.int .i64 l.length)):=by
 rcases hl with⟨rfl,rfl⟩ |⟨a,c,rfl,rfl⟩ |⟨id,rest,ro,mv,rfl,_,_⟩<;>exact⟨rfl,fun _=>rfl⟩
theorem cb.one{α:Type}{f:α->List AV}{sz:Nat}{ty:TypeId}{h:AH}{x:AV}{l:List α}(hl:cb f sz ty h x l):cF x=true/\b_ x=some [x]:=by
 rcases hl with⟨rfl,rfl⟩ |⟨a,c,rfl,rfl⟩ |⟨id,rest,ro,mv,rfl,_,_⟩<;>exact⟨rfl,rfl⟩
theorem cb.at_{α:Type}{f:α->List AV}{sz:Nat}{ty:TypeId}{h:AH}{x:AV}{l:List α}(hl:cb f sz ty h x l)(hf:∀y,(f y).length=sz){i:Nat}{y:α}(hy:l[i]?=some y) :
  ∃id cells ro mv,x=.sl id 0 l.length/\h.obj id=some { cells:=cells,sz:=sz,ty:=mv,ro:=ro,kind:=.row }/\(cells.drop (i*sz)).take sz=f y/\i*sz+sz<=cells.length/\∀j,j<sz->cells[i*sz+j]?=(f y)[j]?:=by
 have hi:i<l.length:=(zM.1 hy).1
 rcases hl with⟨_,rfl⟩ |⟨_,_,_,rfl⟩ |⟨id,rest,ro,mv,h1,_,h2⟩
 ·simp at hi
 ·simp at hi
 ·have hlen:(l.flatMap f).length=l.length*sz:=gD hf l
  have hle:i*sz+sz<=(l.flatMap f).length:=by
   rw[hlen,<-Nat.succ_mul]
   exact Nat.mul_le_mul_right _ hi
  refine⟨id,_,ro,mv,h1,h2,?_,by simp only[List.length_append];omega,fun j hj=>?_⟩
  ·rw[List.drop_append_of_le_length (by omega),List.take_append_of_le_length (by rw[List.length_drop];omega)]
   exact sG hf l i y hy
  ·rw[List.getElem?_append_left (by omega),fS hf l i j hj,hy];rfl
variable {P:Program} {α:Type} {f:α->List AV} {sz:Nat} {ty:TypeId} {h:AH} {x:AV} {l:List α} {i:Nat} {y:α} {W:Nat->Prop}
theorem nT{K:AV->Nat->Prop}(hl:cb f sz ty h x l)(hf:∀y,(f y).length=sz)(hi:l[i]?=some y)(hK:∀q,K (.agg (f y)) q) :
  cj (some (sz,none)) x (.sc (.int .i64 i)) fun t=>al (some true) (some sz) t h K:=by
 have aJ:i<l.length:=(zM.1 hi).1
 obtain⟨id,cells,ro,mv,rfl,ho,h1,h2,_⟩:=hl.at_ hf hi
 simp only[o_,nX,ho,mg,zG,zY]
 refine⟨⟨by omega,by omega⟩,h2,?_⟩
 rw[h1];exact hK _
theorem jI{K:AV->Nat->Prop}{k:Nat}{v:AV}(hl:cb f sz ty h x l)(hf:∀y,(f y).length=sz)(hi:l[i]?=some y)(hk:k<sz)(hv:(f y)[k]?=some v)(hK:∀q,K v q) :
  cj (some (sz,none)) x (.sc (.int .i64 i)) fun t=>ah (some k) t fun t=>al (some false) (some 1) t h K:=by
 have aJ:i<l.length:=(zM.1 hi).1
 obtain⟨id,cells,ro,mv,rfl,ho,h1,h2,h3⟩:=hl.at_ hf hi
 simp only[o_,aj,aF,ho,aA,zG,zY]
 refine⟨⟨by omega,by omega⟩,?_⟩
 rw[h3 _ hk,hv];exact hK _
theorem ma{K:AV->Nat->Prop}{v:AV}(hl:cb f 1 ty h x l)(hf:∀y,(f y).length=1)(hi:l[i]?=some y)(hv:f y=[v])(hK:∀q,K v q) :
  cj (some (1,none)) x (.sc (.int .i64 i)) fun t=>al (some false) (some 1) t h K:=by
 have aJ:i<l.length:=(zM.1 hi).1
 obtain⟨id,cells,ro,mv,rfl,ho,h1,h2,h3⟩:=hl.at_ hf hi
 have h4:=h3 0 (by omega)
 rw[Nat.mul_one]at h4
 simp only[o_,aF,ho,aA,zG,zY,Nat.mul_one]
 refine⟨⟨by omega,by omega⟩,?_⟩
 rw[show i=i+0 by omega,h4,hv];exact hK _
theorem iK{K:AV->AH->Prop}{z:List Value}(hl:cb f sz ty h x l)(hf:∀y,(f y).length=sz)(ho:(f y).all cF=true)(hi:l[i]?=some y)(hz:z.all (·.oneCell')=true)(hn:z.length=sz)(hW:∀id,h.next<=id->W id)
  (hK:∀vn h',Fr h h' (fun _=>False)->h.next<=vn->h'.obj vn=some (aI (f y) sz ty)->K (.ptr vn 0) h') :
  cj (some (sz,none)) x (.sc (.int .i64 i)) fun t=>al (some true) (some sz) t h fun v _=>bn (some z) sz ty h fun p h1=>aE (some sz) p v h1 W fun h2=>K p h2:=by
 refine nT hl hf hi fun q=>?_
 have hv:=AH.cg h (aI (z.map AV.sc) sz ty)
 simp only[aH,az,hv,ib,cn]
 refine⟨hz,⟨hW _ (zU _),ho,hf _,by simp[hn]⟩,?_⟩
 refine hK _ _ ((Fr.refl.alloc _).put (.inr (zU _))) (zU _) ?_
 rw[ki hv]
 congr 1
 simp only[aI]
 congr 1
 exact lX (by simp[hn,hf])
theorem dX{K:AV->Nat->Prop}{cs:List AV}{vn:Nat}(ho:h.obj vn=some (aI cs sz ty))(hc:cs.length=sz)(hK:∀q,K (.agg cs) q):al (some true) (some sz) (.ptr vn 0) h K:=by
 simp only[nX,ho,mg,zG,List.drop_zero]
 refine⟨by omega,?_⟩
 rw[List.take_of_length_le (by omega)];exact hK _
theorem l8{K:AV->Nat->Prop}{cs:List AV}{vn k:Nat}{v:AV}(ho:h.obj vn=some (aI cs sz ty))(hv:cs[k]?=some v)(hK:∀q,K v q):ah (some k) (.ptr vn 0) fun t=>al (some false) (some 1) t h K:=by
 simp only[aj,aF,ho,aA,zG,hv];exact hK _
theorem dF{K:AV->AH->Prop}{cs:List AV}(ho:cs.all cF=true)(hK:∀vn h',Fr h h' (fun _=>False)->h.next<=vn->h'.obj vn=some (aI cs sz ty)->K (.ptr vn 0) h'):dS sz ty (.agg cs) h K:=
 ⟨cs,rfl,ho,hK _ _ (Fr.refl.alloc _) (zU _) (AH.cg h _)⟩
theorem fV{K:AV->AH->Prop}{z:List Value}{cs:List AV}(ho:cs.all cF=true)(hc:cs.length=sz)(hz:z.all (·.oneCell')=true)(hn:z.length=sz)(hW:∀id,h.next<=id->W id)
  (hK:∀vn h',Fr h h' (fun _=>False)->h.next<=vn->h'.obj vn=some (aI cs sz ty)->K (.ptr vn 0) h') :
  bn (some z) sz ty h fun p h1=>aE (some sz) p (.agg cs) h1 W fun h2=>K p h2:=by
 have hv:=AH.cg h (aI (z.map AV.sc) sz ty)
 simp only[aH,az,hv,ib,cn]
 refine⟨hz,⟨hW _ (zU _),ho,hc,by simp[hn]⟩,?_⟩
 refine hK _ _ ((Fr.refl.alloc _).put (.inr (zU _))) (zU _) ?_
 rw[ki hv]
 congr 1
 simp only[aI]
 congr 1
 exact lX (by simp[hn,hc])
theorem Fr.bQ{h h1 h2:AH}(a:Fr h h1 fun _=>False)(b:Fr h1 h2 fun _=>False):Fr h h2 fun _=>False:=a.trans (b.mono fun _ h=>h.elim)
theorem Fr.bI{h h1:AH}(a:Fr h h1 fun _=>False){id:Nat}{o:AO}(ho:h.obj id=some o):h1.obj id=some o:=a.obj ho fun h=>h
section
variable {α:Type} {f:α->List AV} {sz bytes:Nat} {ty:TypeId} {h:AH} {h0:AH} {W:Nat->Prop} {K:AV->AH->Prop} {id:Nat}
theorem Mo{n m:Nat}{K:AV->Prop}(h:n<=m)(hK:K (.sl id 0 n)):sU (some sz) (.sl id 0 m) none (some (.sc (.int .i64 n))) h0 K:=by
 refine⟨0,n,rfl,rfl,⟨by omega,by omega,.inl ⟨rfl,by omega⟩⟩,?_⟩
 simpa using hK
end
theorem tP{sz:Nat}{ty:TypeId}{z:List Value}{len:Nat}{parts:List (Nat×AV)}{cells:List AV}{h:AH}{K:AV->AH->Prop}(hf:dU (fun i=>some (i*sz,sz)) (z.map .sc) parts=some cells/\cells.all cF=true)
  (hK:∀id h',Fr h h' (fun _=>False)->h.next<=id->h'.obj id=some (aI cells sz ty)->K (.sl id 0 len) h'):dK (some (sz,ty,z)) len parts h K:=
 ⟨cells,hf,hK _ _ (Fr.refl.alloc _) (zU _) (AH.cg h _)⟩
theorem la(x y:Int):(x != y)=!decide (x=y):=by by_cases h:x=y<;>simp[h]
abbrev B(b:Bool):AV:=.sc (.bool b)
abbrev I(n:Int):AV:=.sc (.int .i64 n)
abbrev U(n:Int):AV:=.sc (.int .u64 n)
abbrev Sb(s:ByteArray):AV:=.sc (.string s)
end
section
variable {P:Program} {κ:Type} {enc:κ->AV} {kt et:TypeId} {h:AH} {id:Nat} {l:List (κ×AV)} {n:κ} {z v:AV} {ok:Bool} {ty:TypeId}
def uY[DecidableEq κ](P:Program)(kt:TypeId)(enc:κ->AV):Prop:=∀a b,jq P kt (enc a) (enc b)=some (decide (a=b))
theorem NQ(hs:gS P kt=true):uY P kt Sb:=fun a b=>by simp[jq,hs]
theorem Sn(hf:k_ P kt=some [true,false]):uY P kt (fun x:ByteArray×Int=>AV.agg [Sb x.1,I x.2]):=fun a b=>by
 obtain⟨a1,a2⟩:=a
 obtain⟨b1,b2⟩:=b
 simp only[jq,hf,gf,Option.bind_some,List.length_cons,List.length_nil,and_self,zV,yB,Bool.and_true,Prod.mk.injEq]
 by_cases h1:a1=b1<;>by_cases h2:a2=b2<;>simp[h1,h2]
def ee[DecidableEq κ](n:κ):List (κ×AV)->Option AV
 |[]=>none
 |(k,v)::l=>if n=k then some v else ee n l
abbrev P2(enc:κ->AV)(l:List (κ×AV)):List (AV×AV):=l.map fun x=>(enc x.1,x.2)
abbrev lc(enc:κ->AV)(ty:TypeId)(l:List (κ×AV)):AO:={ cells:=[],sz:=0,ty:=ty,kind:=.map (P2 enc l) }
theorem Cb[DecidableEq κ](hk:uY P kt enc)(n:κ):∀(l:List (κ×AV))(i:Nat),(∃j v,ee n l=some v/\me P kt (enc n) (P2 enc l) i=some (some (j,v)))\/(ee n l=none/\me P kt (enc n) (P2 enc l) i=some none)
 |[],i=>.inr ⟨rfl,rfl⟩
 |(k,v)::l,i=>by
  simp only[ee,List.map_cons,me,hk n k]
  by_cases e:n=k
  ·rw[zX e,zL e]
   exact .inl ⟨i,v,rfl,rfl⟩
  ·rw[zW e,zK e]
   exact Cb hk n l (i+1)
theorem HG[DecidableEq κ](hk:uY P kt enc):qK P kt (enc n)=true:=by unfold qK;rw[hk];rfl
def fL(ok:Bool)(z:AV):Option AV->AV
 |some v=>if ok then .cP [v,.b true] else v
 |none=>if ok then .cP [z,.b false] else z
theorem Se[DecidableEq κ]{K:AV->Prop}(hk:uY P kt enc)(hz:nK P et=some z)(hK:K (fL ok z (ee n l))):xO P (kt,et) (P2 enc l) (enc n) ok K:=by
 refine⟨HG hk,?_⟩
 rcases Cb hk n l 0 with⟨j,v,h1,h2⟩ |⟨h1,h2⟩
 ·rw[h1]at hK
  exact⟨_,z,h2,hz,hK⟩
 ·rw[h1]at hK
  exact⟨_,z,h2,hz,hK⟩
theorem gY[DecidableEq κ]{K:AV->Option Nat->Prop}(hk:uY P kt enc)(hz:nK P et=some z)(ho:h.obj id=some (lc enc ty l))(hK:∀d,K (fL ok z (ee n l)) d):fC P (some (kt,et)) (.mp id) (enc n) ok h K:=
 ⟨_,_,⟨ho,rfl⟩,Se hk hz (hK _)⟩
theorem ua[DecidableEq κ]{W:Nat->Prop}{K:AH->Prop}(hk:uY P kt enc)(hW:W id)(ho:h.obj id=some (lc enc ty l))(hn:ee n l=none)
  (hK:∀h',h'.obj id=some (lc enc ty (l++[(n,v)]))->Fr h h' (·=id)->K h'):dI P (some (kt,et)) (.mp id) (enc n) v h W K:=by
 rcases Cb hk n l 0 with⟨j,v,h1,h2⟩ |⟨h1,h2⟩
 ·rw[hn]at h1;cases h1
 ·refine⟨_,_,none,⟨hW,ho,rfl,rfl⟩,HG hk,h2,hK _ ?_ ?_⟩
  ·rw[AH.pG,zX rfl,ho]
   simp[lc,Ux]
  ·exact Fr.refl.iJ (.inl rfl)
theorem Aa{K:AV->AH->Prop}{t:TypeId}(hK:∀id h',h'.obj id=some (lc enc t [])->h.next<=id->Fr h h' (fun _=>False)->K (.mp id) h'):qq t h K:=
 hK _ _ (AH.cg h _) (zU _) (Fr.refl.alloc _)
theorem Ov[DecidableEq κ]{a b:List (κ×AV)}:ee n (a++b)=(ee n a).or (ee n b):=by
 induction a with
 |nil=>rfl
 |cons x a ih=>
  obtain⟨k,w⟩:=x
  simp only[List.cons_append,ee]
  by_cases e:n=k
  ·rw[zX e,zX e];rfl
  ·rw[zW e,zW e,ih]
theorem Ak[DecidableEq κ]{α:Type}{f:α->κ}{g:α->AV}:∀{l:List α},ee n (l.map fun x=>(f x,g x))=(l.find? fun x=>decide (f x=n)).map g
 |[]=>rfl
 |x::l=>by
  simp only[List.map_cons,ee,List.find?_cons]
  by_cases e:n=f x
  ·rw[zX e,zL e.symm];rfl
  ·rw[zW e,zK (fun h=>e h.symm)];exact Ak
theorem Gy{α:Type}{f:α->List AV}{sz bytes:Nat}{ty:TypeId}{z:List Value}(hf:∀x,(f x).length=sz)(gO:0<sz)(hz:z.length=sz)(hb:bytes<=1024)
  {h:AH} {x:AV} {l:List α} {t:α} {W:Nat->Prop} {K:AV->AV->AH->Prop} {v0:AV} (hv:b_ v0=some (f t)) (h1:(f t).all cF=true) (hl:bC f sz ty h x l) (hw:df W x) (hn:l.length<=100000000)
  (hK:∀y h',bC f sz ty h' y (l++[t])->df (h.next<=·) y->Fr h h' (fun i=>∃off n,x=.sl i off n)->K (.sl h.next 0 1) y h') :
  dK (some (sz,ty,z)) 1 [(0,v0)] h (fun v h4=>eh (some (sz,bytes,ty)) x v h4 W (K v)):=by
 have ZN:∀y h',bC f sz ty h' y (l++[t])->df (h.next<=·) y->(∀i,i<h.next->(∀off n,x≠.sl i off n)->h'.obj i=h.obj i)->h.next<=h'.next->K (.sl h.next 0 1) y h':=fun y h' a b c d=>hK y h' a b ⟨d,fun i hi hs=>c i hi (fun off n he=>hs ⟨off,n,he⟩)⟩
 have jy:dU (fun i=>some (i*sz,sz)) (z.map .sc) [(0,v0)]=some (f t):=by
  simp only[dU,hv,Nat.zero_mul,hf,zZ,hz,zG,zU,and_self,zV]
  rw[lX (by simp[hf,hz])]
 refine⟨f t,⟨jy,h1⟩,?_⟩
 have wO:(l.length+1)*bytes<=140737488355328:=by
  have:(l.length+1)*bytes<=100000001*1024:=Nat.mul_le_mul (by omega) hb
  omega
 have jx:((f t).drop 0).take (1*sz)=f t:=by rw[List.drop_zero,List.take_of_length_le (by rw[hf];omega)]
 rcases hl with⟨rfl,rfl⟩ |⟨id,rfl,ho⟩
 ·refine⟨1,f t,.inr ⟨rfl,_,AH.cg _ _,rfl,by simp[hf],jx.symm⟩,?_⟩
  show if 1=0 then _ else _
  rw[zW (by omega)]
  refine⟨⟨by omega,by simpa using wO⟩,?_⟩
  refine ZN _ _ (.inr ⟨_,rfl,?_⟩) ?_ ?_ ?_
  ·rw[AH.cg];simp[aI]
  ·intro i off n he;cases he;simp only[AH.bD];omega
  ·intro i hi _;rw[AH.alloc_old (by simp only[AH.bD];omega),AH.alloc_old hi]
  ·simp only[AH.bD];omega
 ·have hid:=h.lt _ _ ho
  refine⟨1,f t,.inr ⟨rfl,_,AH.cg _ _,rfl,by simp[hf],jx.symm⟩,?_⟩
  show if 1=0 then _ else _
  rw[zW (by omega)]
  have hlen:(l.flatMap f).length=l.length*sz:=gD hf l
  refine⟨rfl,_,⟨hw _ _ _ rfl,by rw[AH.alloc_old hid];exact ho,rfl,rfl,rfl,rfl,by simp[aI,hlen],by omega,wO⟩,?_⟩
  refine ZN _ _ (.inr ⟨_,by rw[List.length_append,List.length_singleton],?_⟩) ?_ ?_ ?_
  ·rw[AH.bJ,zX (by simp[AH.bD,AH.fw])]
   simp only[aI,List.flatMap_append,List.flatMap_cons,List.flatMap_nil,List.append_nil]
   rw[List.take_of_length_le (by rw[hlen];exact zU _)]
  ·intro i off n he;cases he;simp only[AH.bD];omega
  ·intro i hi b7
   have:i≠id:=fun e=>b7 0 l.length (by rw[e])
   rw[AH.alloc_old (by simp only[AH.bD,AH.fw];omega),AH.qX this,AH.alloc_old hi]
  ·simp only[AH.bD,AH.fw];omega
def TW(T:TypeId->Bool)(n0:Nat)(h:AH)(id:Nat):Prop:=n0<=id/\∃o,h.obj id=some o/\o.ro=false/\T o.ty=true
theorem TW.trans{T:TypeId->Bool}{n0:Nat}{h h1 h2:AH}(a:Fr h h1 (TW T n0 h))(b:Fr h1 h2 (TW T n0 h1)):Fr h h2 (TW T n0 h):=by
 refine⟨zR a.next b.next,fun id dP eB=>?_⟩
 have e1:=a.dr id dP eB
 rw[b.dr id (Nat.lt_of_lt_of_le dP a.next) ?_,e1]
 rintro⟨h3,o,h4,h5⟩
 exact eB ⟨h3,o,by rw[<-e1];exact h4,h5⟩
theorem TW.bp{T:TypeId->Bool}{n0:Nat}{h h1:AH}(a:Fr h h1 fun _=>False):Fr h h1 (TW T n0 h):=a.mono fun _ h=>h.elim
theorem TW.mO{T:TypeId->Bool}{n0 id:Nat}{h h1:AH}{o:AO}(a:Fr h h1 (·=id))(hn:n0<=id)(ho:h.obj id=some o)(hr:o.ro=false)(ht:T o.ty=true):Fr h h1 (TW T n0 h):=a.mono fun i e=>by subst e;exact⟨hn,o,ho,hr,ht⟩
theorem TW.back{T:TypeId->Bool}{n0:Nat}{h h':AH}(hf:Fr h h' (TW T n0 h)){id:Nat}(hs:TW T n0 h' id):TW T n0 h id\/h.next<=id:=by
 by_cases hl:id<h.next
 ·refine .inl (Classical.byContradiction fun hc=>hc ?_)
  obtain⟨h1,o,h2,h3⟩:=hs
  exact⟨h1,o,by rw[<-hf.dr id hl hc];exact h2,h3⟩
 ·exact .inr (by omega)
theorem TW.no{T:TypeId->Bool}{n0:Nat}{h:AH}{id:Nat}{o:AO}(ho:h.obj id=some o)(h1:o.ro=false->T o.ty=false):¬TW T n0 h id:=by
 rintro⟨_,o',h3,h5,h4⟩
 rw[ho]at h3;cases h3
 rw[h1 h5]at h4;cases h4
theorem TW.obj{T:TypeId->Bool}{n0:Nat}{h h':AH}(hf:Fr h h' (TW T n0 h)){id:Nat}{o:AO}(ho:h.obj id=some o)(h1:T o.ty=false):h'.obj id=some o:=hf.obj ho (TW.no ho fun _=>h1)
theorem cb.wX{T:TypeId->Bool}{n0:Nat}{α:Type}{f:α->List AV}{sz:Nat}{ty:TypeId}{h h':AH}{x:AV}{l:List α}(hl:cb f sz ty h x l)(hf:Fr h h' (TW T n0 h))(ht:T ty=false):cb f sz ty h' x l:=hl.fr hf fun _ _ ho js=>TW.no ho fun hr=>by rw[js hr];exact ht
theorem bC.wX{T:TypeId->Bool}{n0:Nat}{α:Type}{f:α->List AV}{sz:Nat}{ty:TypeId}{h h':AH}{x:AV}{l:List α}(hl:bC f sz ty h x l)(hf:Fr h h' (TW T n0 h))(ht:T ty=false):bC f sz ty h' x l:=by
 rcases hl with hl |⟨id,h1,h2⟩
 ·exact .inl hl
 ·exact .inr ⟨id,h1,TW.obj hf h2 ht⟩
theorem Fr.Nd{h h1:AH}{S:Nat->Prop}(a:Fr h h1 S){id:Nat}{k:Kind}(hs:S id\/h.next<=id):Fr h (h1.iJ id k) S:=a.iJ hs
theorem WN{id:Nat}:b_ (.mp id)=some [.mp id]:=rfl
theorem WL:b_ (.sc (.map none))=some [.sc (.map none)]:=rfl
attribute [simp] WN WL
end
section
structure Bd where
 P:Program
 N:Nat
 pl:dz
structure Cx where
 W:WK
 R:VK
 N:VK
 E:EK
 P:PK
abbrev GK:=WK->VK->VK->EK->PK->VK->VK
def u0:Code->Code
 |.seq a _ |.cond _ a _ |.block _ a |.loop a |.scope a=>a
 |c=>c
def u1:Code->Code
 |.seq _ b |.cond _ _ b=>b
 |c=>c
def uc:Code->Operand
 |.cond o _ _=>o
 |_=>.tmp 0
def uo:Code->Array Oper
 |.region _ o _=>o
 |_=>#[]
def ui:Code->Nat
 |.region i _ _=>i
 |_=>0
def ud:Code->Bool
 |.region _ _ d=>d
 |_=>false
abbrev TB(B:Bd)(W:WK)(QP:bU)(x:Code)(q:ck)(f:KT):Prop:=aw B.P B.N W B.pl x q QP=f
abbrev RK:=AE->AH->Prop
def fr:Nat->Nat->List (Nat×Bool)
 |_,0=>[]
 |a,n+1=>(a,false)::fr (a+1) n
abbrev OK:=WK->ck->bU->St->AH->Prop
def EU:List Nat->WK->Nat->WK
 |[],W=>fun _=>W
 |a::l,W=>CS (a::l) fun _=>W
def BC(B:Bd)(x:Code):th:=(rk B.pl (ui x)).getD ⟨[],false,[],[]⟩
def gi(g:CA):List (Nat×Bool):=(g.head?.map (·.2)).getD []
def gj(g:CA):Nat:=((g.head?.bind (·.1)).map (·.1)).getD 0
def gw(g:CA):Bool:=((g.head?.bind (·.1)).map (·.2)).getD false
abbrev TG(B:Bd)(W:WK)(QP:bU)(x:Code)(g:CA)(K f:KT):Prop:=kL B.P B.N (EU (BC B x).pure W) lO QP (uo x) g K=f
section
variable {B:Bd} {W:WK} {QP:bU} {x:Code} {q:ck} {K:KT} {g:CA}
theorem sq(f:KT)(hb:TB B W QP (u1 x) q K)(e:(x,aw B.P B.N W B.pl (u0 x) (bL K q) QP)=(.seq (u0 x) (u1 x),f):=by kernel_rfl):TB B W QP x q f:=by
 obtain⟨e1,e2⟩:=Prod.mk.inj e
 unfold TB at *;subst hb;rw[e1];exact e2
theorem sl(f:KT)(e:(x,aw B.P B.N W B.pl (u0 x) (bL (aw B.P B.N W B.pl (u1 x) q QP) q) QP)=(.seq (u0 x) (u1 x),f):=by kernel_rfl):TB B W QP x q f:=sq f rfl e
theorem sn{f:KT}(hb:TB B W QP (u1 x) q K)(ha:TB B W QP (u0 x) (bL K q) f)(e:x=.seq (u0 x) (u1 x):=by kernel_rfl):TB B W QP x q f:=by
 unfold TB at *;subst hb;rw[e];exact ha
theorem cd(f:KT){A A':KT}(hA:TB B W QP (u0 x) q A)(hB:TB B W QP (u1 x) q A')(e:(x,fun s h=>aM (lx s (uc x)) (A s h) (A' s h))=(.cond (uc x) (u0 x) (u1 x),f):=by kernel_rfl):TB B W QP x q f:=by
 obtain⟨e1,e2⟩:=Prod.mk.inj e
 unfold TB at *;subst hA hB;rw[e1];exact e2
theorem bk{f:KT}(i:Nat)(ha:TB B W QP (u0 x) (eI i q) f)(e:x=.block i (u0 x):=by kernel_rfl):TB B W QP x q f:=by unfold TB at *;rw[e];exact ha
theorem sp{f:KT}(ha:TB B W QP (u0 x) (pe q) f)(e:x=.scope (u0 x):=by kernel_rfl):TB B W QP x q f:=by unfold TB at *;rw[e];exact ha
theorem sm(f:KT)(e:aw B.P B.N W B.pl x q QP=f:=by kernel_rfl):TB B W QP x q f:=e
theorem tr:TB B W QP x q (aw B.P B.N W B.pl x q QP):=rfl
theorem gr{f:KT}(hr:TG B W QP x (BC B x).fI (q .normal) f)(e:(x,rk B.pl (ui x))=(.region (ui x) (uo x) (ud x),some ⟨(BC B x).fI,false,[],(BC B x).pure⟩):=by kernel_rfl):TB B W QP x q f:=by
 obtain⟨e1,e2⟩:=Prod.mk.inj e
 unfold TB TG at *;subst hr;rw[e1]
 funext s h
 cases hp:(BC B x).pure with
 |nil=>rw[hp]at e2;rw[Mw e2,<-e1,hp];rfl
 |cons a l=>rw[hp]at e2;rw[Gw e2,<-e1,hp];rfl
theorem gn(f:KT){C:KT}(hr:TG B W QP x g.tail K C)(e:(g,mX B.P B.N (EU (BC B x).pure W) lO QP (uo x) (gi g) C)=((none,gi g)::g.tail,f):=by kernel_rfl):TG B W QP x g K f:=by
 obtain⟨e1,e2⟩:=Prod.mk.inj e
 unfold TG at *;subst hr;rw[e1];exact e2
theorem gl(f:KT)(e:(g,mX B.P B.N (EU (BC B x).pure W) lO QP (uo x) (gi g) K)=([(none,gi g)],f):=by kernel_rfl):TG B W QP x g K f:=by
 obtain⟨e,e2⟩:=Prod.mk.inj e
 unfold TG;rw[e];exact e2
theorem gx(f:KT){C:KT}(hr:TG B W QP x g.tail K C)(e:(g,kW (uo x) (gj g),fun s h=>bE (gw g) (s.tm ((kW (uo x) (gj g)).getD 0)) (mX B.P B.N (EU (BC B x).pure W) lO QP (uo x) (gi g) C s h) (C (CN B.N (uo x) (gi g) s) h))=((some (gj g,gw g),gi g)::g.tail,some ((kW (uo x) (gj g)).getD 0),f):=by kernel_rfl):TG B W QP x g K f:=by
 obtain⟨e1,e3⟩:=Prod.mk.inj e
 obtain⟨e2,e4⟩:=Prod.mk.inj e3
 unfold TG at *;subst hr;rw[<-e4];clear e e3 e4
 generalize hd:(kW (uo x) (gj g)).getD 0=d at *
 generalize gj g=j at *
 generalize gw g=w at *
 generalize gi g=i at *
 generalize List.tail g=t at *
 subst e1
 funext s h
 simp only[kL,e2]
theorem gm{C:KT}(hr:TG B W QP x g.tail K C)(e:g=(none,gi g)::g.tail:=by kernel_rfl):TG B W QP x g K (mX B.P B.N (EU (BC B x).pure W) lO QP (uo x) (gi g) C):=gn _ hr (Prod.ext e rfl)
theorem lo(f:KT)(e:(x,fun s h=>lz (aw B.P B.N W B.pl (u0 x)) q QP s h)=(.loop (u0 x),f):=by kernel_rfl):TB B W QP x q f:=by
 obtain⟨e,e2⟩:=Prod.mk.inj e
 unfold TB;rw[e];exact e2
variable {c:Cx}
def lk:List (Nat×List Nat)->Nat->List Nat
 |[],_=>[]
 |(i,l)::r,j=>if j=i then l else lk r j
def K1(L rs:List Nat)(el:List (Nat×List Nat))(c:Cx):ck
 |.normal,s,h=>c.N (L.map s.tm) h
 |.ret,s,h=>c.R (rs.map s.tm) h
 |.exit j,s,h=>c.E j ((lk el j).map s.tm) h
 |.goto _,_,_=>False
structure PQ (R:VK) (rs:List Nat) (el:List (Nat×List Nat)) (E:EK) (q:ck):Prop where
 r:∀s h,q .ret s h=R (rs.map s.tm) h
 e:∀j s h,q (.exit j) s h=E j ((lk el j).map s.tm) h
 g:∀l s h,q (.goto l) s h=False
variable {R:VK} {rs:List Nat} {el:List (Nat×List Nat)} {E:EK}
theorem PQ.b{i:Nat}{l:List Nat}{A:VK}(hr:PQ R rs el E q)(hA:q .normal=fun s h=>A (l.map s.tm) h:=by kernel_rfl):PQ R rs ((i,l)::el) (fun j vs h=>if j=i then A vs h else E j vs h) (eI i q) where
 r:=hr.r
 g:=hr.g
 e:=fun j s h=>by
  simp only[eI,lk]
  split
  ·rw[hA]
  ·exact hr.e j s h
theorem PQ.t(hr:PQ R rs el E q):PQ R rs el E (bL K q):=⟨hr.r,hr.e,hr.g⟩
theorem PQ.n(hr:PQ R rs el E q):PQ R rs el E (pe q):=⟨hr.r,hr.e,fun _ _ _=>rfl⟩
theorem PQ.o{L:List Nat}:PQ c.R rs el c.E (K1 L rs el c):=⟨fun _ _=>rfl,fun _ _ _=>rfl,fun _ _ _=>rfl⟩
theorem lp{fb:Cx->KT}(L rs:List Nat)(el:List (Nat×List Nat))(f:KT)(G:GK)(E:EK)
  (hq:PQ c.R rs el E q) (hb:∀c:Cx,TB B c.W (kP c.P) (u0 x) (K1 L rs el c) (fb c)) (e:(x,(fun Kn=>fb ⟨c.W,c.R,Kn,E,c.P⟩),f)=(.loop (u0 x),(fun Kn s h=>G c.W c.R c.N c.E c.P Kn (L.map s.tm) h),fun s h=>dT (G c.W c.R c.N c.E c.P) (L.map s.tm) h):=by kernel_rfl):TB B c.W (kP c.P) x q f:=by
 obtain⟨e1,e3⟩:=Prod.mk.inj e
 obtain⟨e2,e4⟩:=Prod.mk.inj e3
 subst e4
 unfold TB;rw[e1]
 funext s h
 show lz (aw B.P B.N c.W B.pl (u0 x)) q (kP c.P) s h=_
 refine Tu (L:=fun tm=>L.map tm) (G:=G c.W c.R c.N c.E c.P) (fun Kn KQ hK s h=>?_) s h
 have hqq:bL KQ q=K1 L rs el ⟨c.W,c.R,Kn,E,c.P⟩:=by
  funext z s h
  cases z with
  |normal=>exact hK s h
  |ret=>exact hq.r s h
  |exit j=>exact hq.e j s h
  |goto l=>exact hq.g l s h
 rw[hqq]
 have h1:=congrFun (congrFun (hb ⟨c.W,c.R,Kn,E,c.P⟩) s) h
 have h2:=congrFun (congrFun (congrFun e2 Kn) s) h
 exact h1.trans h2
end
theorem fin{P:Program}{f n:Nat}{L:List Nat}{fn:Func}{rs:List ResultVar}{pl:dz}{args:List AV}{h:AH}{M:Nat->Prop}{R:AE->AH->Prop}(F:Cx->KT)(hm:P.follows .mixedOrders=true)(hf:P.funcs[f]?=some fn)
  (ht:∀c:Cx,TB ⟨P,n,pl⟩ c.W (kP c.P) (fn.body.getD .skip) (K1 L L [] c) (F c))
  (hp:F ⟨fun id=>M id\/h.next<=id,aK P rs R,aK P rs R,fun _ _ _=>False,fun v h=>R (.b6 v) h⟩ (s0 args) h) (e:(kl P pl (fn.body.getD .skip)&&sf (fn.body.getD .skip)&&Nat.ble args.length n,fn.body,fn.ntmps,fn.results.toList,rs.map rV)=(true,some (fn.body.getD .skip),n,rs,L):=by kernel_rfl):aB P f args h M R:=by
 obtain⟨e1,e⟩:=Prod.mk.inj e
 obtain⟨e2,e⟩:=Prod.mk.inj e
 obtain⟨e3,e⟩:=Prod.mk.inj e
 obtain⟨e4,e5⟩:=Prod.mk.inj e
 simp only[yC]at e1
 obtain⟨⟨o1,o2⟩,o3⟩:=e1
 subst e3
 refine xw hm hf e2 (Nat.le_of_ble_eq_true o3) o1 ?_
 rw[e4]
 refine Wt (q:=K1 L L [] ⟨fun id=>M id\/h.next<=id,aK P rs R,aK P rs R,fun _ _ _=>False,fun v h=>R (.b6 v) h⟩) o2 (fun s h=>?_) (fun s h=>?_) (fun _ _ _ h=>h) (fun _ _ _ h=>h) rfl ?_
 ·show aK P rs R (L.map s.tm) h=_
  rw[<-e5,List.map_map];rfl
 ·show aK P rs R (L.map s.tm) h=_
  rw[<-e5,List.map_map];rfl
 ·have:=congrFun (congrFun (ht ⟨fun id=>M id\/h.next<=id,aK P rs R,aK P rs R,fun _ _ _=>False,fun v h=>R (.b6 v) h⟩) (s0 args)) h
  exact Eq.mpr this hp
theorem mA{P:Program}{f n:Nat}{fn:Func}{rs:List ResultVar}{pl:dz}{args:List AV}{h:AH}{M:Nat->Prop}{R:AE->AH->Prop}(F:OK)(hm:P.follows .mixedOrders=true)(hf:P.funcs[f]?=some fn)
  (ht:∀W Q QP,TB ⟨P,n,pl⟩ W QP (fn.body.getD .skip) Q (F W Q QP))
  (hp:F (fun id=>M id\/h.next<=id) (cM P rs R) (bx R) (s0 args) h) (e:(kl P pl (fn.body.getD .skip)&&Nat.ble args.length n,fn.body,fn.ntmps,fn.results.toList)=(true,some (fn.body.getD .skip),n,rs):=by kernel_rfl):aB P f args h M R:=by
 obtain⟨e1,e⟩:=Prod.mk.inj e
 obtain⟨e2,e⟩:=Prod.mk.inj e
 obtain⟨e3,e4⟩:=Prod.mk.inj e
 simp only[yC]at e1
 obtain⟨o1,o3⟩:=e1
 subst e3
 refine xw hm hf e2 (Nat.le_of_ble_eq_true o3) o1 ?_
 rw[e4]
 exact Eq.mpr (congrFun (congrFun (ht _ _ _) (s0 args)) h) hp
abbrev N0:=WK->VK->VK->EK->PK->AH->Prop
def a0(n:N0)(c:Cx):KT:=fun _ h=>n c.W c.R c.N c.E c.P h
abbrev N1:=WK->VK->VK->EK->PK->AV->AH->Prop
def a1(n:N1)(i0:Nat)(c:Cx):KT:=fun s h=>n c.W c.R c.N c.E c.P (s.tm i0) h
abbrev N2:=WK->VK->VK->EK->PK->AV->AV->AH->Prop
def a2(n:N2)(i0 i1:Nat)(c:Cx):KT:=fun s h=>n c.W c.R c.N c.E c.P (s.tm i0) (s.tm i1) h
abbrev N3:=WK->VK->VK->EK->PK->AV->AV->AV->AH->Prop
def a3(n:N3)(i0 i1 i2:Nat)(c:Cx):KT:=fun s h=>n c.W c.R c.N c.E c.P (s.tm i0) (s.tm i1) (s.tm i2) h
abbrev N4:=WK->VK->VK->EK->PK->AV->AV->AV->AV->AH->Prop
def a4(n:N4)(i0 i1 i2 i3:Nat)(c:Cx):KT:=fun s h=>n c.W c.R c.N c.E c.P (s.tm i0) (s.tm i1) (s.tm i2) (s.tm i3) h
abbrev N5:=WK->VK->VK->EK->PK->AV->AV->AV->AV->AV->AH->Prop
def a5(n:N5)(i0 i1 i2 i3 i4:Nat)(c:Cx):KT:=fun s h=>n c.W c.R c.N c.E c.P (s.tm i0) (s.tm i1) (s.tm i2) (s.tm i3) (s.tm i4) h
abbrev N6:=WK->VK->VK->EK->PK->AV->AV->AV->AV->AV->AV->AH->Prop
def a6(n:N6)(i0 i1 i2 i3 i4 i5:Nat)(c:Cx):KT:=fun s h=>n c.W c.R c.N c.E c.P (s.tm i0) (s.tm i1) (s.tm i2) (s.tm i3) (s.tm i4) (s.tm i5) h
abbrev N7:=WK->VK->VK->EK->PK->AV->AV->AV->AV->AV->AV->AV->AH->Prop
def a7(n:N7)(i0 i1 i2 i3 i4 i5 i6:Nat)(c:Cx):KT:=fun s h=>n c.W c.R c.N c.E c.P (s.tm i0) (s.tm i1) (s.tm i2) (s.tm i3) (s.tm i4) (s.tm i5) (s.tm i6) h
abbrev N8:=WK->VK->VK->EK->PK->AV->AV->AV->AV->AV->AV->AV->AV->AH->Prop
def a8(n:N8)(i0 i1 i2 i3 i4 i5 i6 i7:Nat)(c:Cx):KT:=fun s h=>n c.W c.R c.N c.E c.P (s.tm i0) (s.tm i1) (s.tm i2) (s.tm i3) (s.tm i4) (s.tm i5) (s.tm i6) (s.tm i7) h
abbrev N9:=WK->VK->VK->EK->PK->AV->AV->AV->AV->AV->AV->AV->AV->AV->AH->Prop
def a9(n:N9)(i0 i1 i2 i3 i4 i5 i6 i7 i8:Nat)(c:Cx):KT:=fun s h=>n c.W c.R c.N c.E c.P (s.tm i0) (s.tm i1) (s.tm i2) (s.tm i3) (s.tm i4) (s.tm i5) (s.tm i6) (s.tm i7) (s.tm i8) h
abbrev tS:=WK->VK->VK->EK->PK->AV->AV->AV->AV->AV->AV->AV->AV->AV->AV->AH->Prop
def sQ(n:tS)(i0 i1 i2 i3 i4 i5 i6 i7 i8 i9:Nat)(c:Cx):KT:=fun s h=>n c.W c.R c.N c.E c.P (s.tm i0) (s.tm i1) (s.tm i2) (s.tm i3) (s.tm i4) (s.tm i5) (s.tm i6) (s.tm i7) (s.tm i8) (s.tm i9) h
abbrev GQ:=WK->VK->VK->EK->PK->AV->AV->AV->AV->AV->AV->AV->AV->AV->AV->AV->AH->Prop
def DZ(n:GQ)(i0 i1 i2 i3 i4 i5 i6 i7 i8 i9 i10:Nat)(c:Cx):KT:=fun s h=>n c.W c.R c.N c.E c.P (s.tm i0) (s.tm i1) (s.tm i2) (s.tm i3) (s.tm i4) (s.tm i5) (s.tm i6) (s.tm i7) (s.tm i8) (s.tm i9) (s.tm i10) h
abbrev Is:=WK->VK->VK->EK->PK->AV->AV->AV->AV->AV->AV->AV->AV->AV->AV->AV->AV->AH->Prop
def a12(n:Is)(i0 i1 i2 i3 i4 i5 i6 i7 i8 i9 i10 i11:Nat)(c:Cx):KT:=fun s h=>n c.W c.R c.N c.E c.P (s.tm i0) (s.tm i1) (s.tm i2) (s.tm i3) (s.tm i4) (s.tm i5) (s.tm i6) (s.tm i7) (s.tm i8) (s.tm i9) (s.tm i10) (s.tm i11) h
abbrev Z7:=WK->VK->VK->EK->PK->AV->AV->AV->AV->AV->AV->AV->AV->AV->AV->AV->AV->AV->AH->Prop
def a13(n:Z7)(i0 i1 i2 i3 i4 i5 i6 i7 i8 i9 i10 i11 i12:Nat)(c:Cx):KT:=fun s h=>n c.W c.R c.N c.E c.P (s.tm i0) (s.tm i1) (s.tm i2) (s.tm i3) (s.tm i4) (s.tm i5) (s.tm i6) (s.tm i7) (s.tm i8) (s.tm i9) (s.tm i10) (s.tm i11) (s.tm i12) h
abbrev N20:=WK->VK->VK->EK->PK->AV->AV->AV->AV->AV->AV->AV->AV->AV->AV->AV->AV->AV->AV->AV->AV->AV->AV->AV->AV->AH->Prop
def a20(n:N20)(i0 i1 i2 i3 i4 i5 i6 i7 i8 i9 i10 i11 i12 i13 i14 i15 i16 i17 i18 i19:Nat)(c:Cx):KT:=fun s h=>n c.W c.R c.N c.E c.P (s.tm i0) (s.tm i1) (s.tm i2) (s.tm i3) (s.tm i4) (s.tm i5) (s.tm i6) (s.tm i7) (s.tm i8) (s.tm i9) (s.tm i10) (s.tm i11) (s.tm i12) (s.tm i13) (s.tm i14) (s.tm i15) (s.tm i16) (s.tm i17) (s.tm i18) (s.tm i19) h
end
end Go.Ab
