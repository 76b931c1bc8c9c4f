/- Regions, code and calls over the table are sound; short ways to use them; bodies told straight; maps; slices that hold lists. No condition. -/
import Derived.LoopN
import Derived.Scope
import Derived.Test.YtjehibknlmehmaaGreatDoorAb1
set_option maxRecDepth 100000
namespace Go.Ab
section
variable {P:Program} {E:Env}
def ng(P:Program)(pu:List Nat)(ops:Array Oper)(B:List Nat)(listed:Array Bool)(x:Nat×Bool):Bool:=
 match ops[x.1]? with
 |none=>false
 |some oi=>
  if sI oi.op then
   (Region.ready .any ops listed).contains x.1 &&
   (List.range ops.size).all fun j=>j==x.1||listed.getD j true||(B.getD j 0).testBit x.1 ||
    (match ops[j]? with |some oj=>oi.apart ops oj&&(!nn P oi.op||sI oj.op||(match x.2 with |true=>true |false=>EL oj.op||pu.contains j)) |none=>true)
  else Region.ready .any ops listed==[x.1]
def rj(P:Program)(pu:List Nat)(ops:Array Oper)(B:List Nat):List (Nat×Bool)->Array Bool->Bool
 |[],_=>true
 |x::rest,listed=>ng P pu ops B listed x&&rj P pu ops B rest (listed.setIfInBounds x.1 true)
def gJ(order:List (Nat×Bool))(listed:Array Bool):Array Bool:=order.foldl (fun l x=>l.setIfInBounds x.1 true) listed
def lj(ops:Array Oper)(j:Nat):Option Nat:=(ops[j]?).bind (·.dst)
def nC(ops:Array Oper)(g:Option (Nat×Bool)×List (Nat×Bool)):Bool:=
 g.2.all fun x=>match ops[x.1]? with
  |some o=>o.guard==g.1&&(match g.1 with |none=>true |some (j,_)=>(match lj ops j with |some d=>o.dst != some d |none=>false))
  |none=>false
inductive Way where
 |mk (path:List (Nat×Bool)) (next:List Way)
def Way.path:Way->List (Nat×Bool)
 |.mk p _=>p
mutual
def Way.DO:Way->List (Nat×Bool)
 |.mk p ws=>p++oF ws
def oF:List Way->List (Nat×Bool)
 |[]=>[]
 |w::r=>w.DO++oF r
end
structure tC where
 gq:List (Option (Nat×Bool)×List (Nat×Bool))
 held:Bool
 alts:List Way
 pure:List Nat
def iS(p:tC):List Nat:=((p.gq.flatMap (·.2)++oF p.alts).filter (·.2)).map (·.1)
def CC(B hl:List Nat)(j i:Nat):Bool:=hl.contains i&&!(B.getD j 0).testBit i
def Az(ops:Array Oper)(j:Nat):Bool:=match ops[j]? with |some o=>sI o.op |none=>false
def vb(ops:Array Oper)(C:Nat->Nat->Bool)(order:List (Nat×Bool))(k i:Nat):Bool:=(order.take k).all fun x=>Az ops x.1||C x.1 i
def uu(ops:Array Oper)(hl:List Nat)(C:Nat->Nat->Bool)(order:List (Nat×Bool)):Bool:=
 (List.range order.length).all fun k=>match order[k]? with
  |some x=>(!x.2||vb ops C order k x.1)&&(Az ops x.1||hl.all fun i=>!C x.1 i||vb ops C order k i)
  |none=>false
def jZ(ws:List Way):List Nat:=ws.map fun w=>(w.path.head?.map (·.1)).getD 0
mutual
def xk(P:Program)(pu:List Nat)(ops:Array Oper)(B hl:List Nat):Way->List (Nat×Bool)->Array Bool->Bool
 |.mk path ws,order,listed=>(match path with
   |[]=>false
   |x::rest=>(match ops[x.1]? with |some o=>!sI o.op |none=>false)&&rj P pu ops B rest (listed.setIfInBounds x.1 true)) &&
   nC ops (none,path)&&Nat.ble (order.length+path.length) ops.size&&uu ops hl (CC B hl) (order++path) &&
   Region.ready .any ops (gJ path listed)==jZ ws&&(!ws.isEmpty||order.length+path.length==ops.size)&&pV P pu ops B hl ws (order++path) (gJ path listed)
def pV(P:Program)(pu:List Nat)(ops:Array Oper)(B hl:List Nat):List Way->List (Nat×Bool)->Array Bool->Bool
 |[],_,_=>true
 |w::r,order,listed=>xk P pu ops B hl w order listed&&pV P pu ops B hl r order listed
end
def Ew(P:Program)(ops:Array Oper)(draw:Bool)(p:tC):Bool:=
 let order:=p.gq.flatMap (·.2)
 p.gq.all (nC ops) &&
 match draw with
 |false=>order==(List.range ops.size).map (fun i=>(i,false))&&p.alts.isEmpty
 |true=>
  let B:=iL .any ops
  let listed:=gJ order (Array.replicate ops.size false)
  rj P p.pure ops B order (Array.replicate ops.size false)&&uu ops (iS p) (CC B (iS p)) order&&Region.noSelect ops&&Region.ready .any ops listed==jZ p.alts &&
   (if p.alts.isEmpty then order.length==ops.size else pV P p.pure ops B (iS p) p.alts order listed)
abbrev dm:=List (Nat×tC)
def rE:dm->Nat->Option tC
 |[],_=>none
 |x::r,id=>if x.1=id then some x.2 else rE r id
def i_(n:Nat):List (Nat×Bool):=(List.range n).map fun i=>(i,false)
def zd(P:Program)(pl:dm)(id:Nat)(ops:Array Oper)(draw:Bool):Bool:=
 match rE pl id with
 |some p=>Ew P ops draw p
 |none=>!draw&&nC ops (none,i_ ops.size)
def kA(P:Program)(pl:dm):Code->Bool
 |.region id ops draw=>zd P pl id ops draw
 |.seq a b |.cond _ a b=>kA P pl a&&kA P pl b
 |.block _ c |.loop c |.scope c=>kA P pl c
 |_=>true
def cS(held:Bool)(Hd:Nat->Prop)(d:Option Nat)(k:Prop):Prop:=
 match held with
 |false=>k
 |true=>(match d with |some id=>Hd id |none=>False)/\k
def rh(P:Program)(N:Nat)(W Hd:Nat->Prop)(QP:List fi->AV->AH->Prop)(held:Bool)(o:Oper)(K:St->AH->Prop)(s:St)(h:AH):Prop:=
 match sI o.op with
 |true=>qOp P o.op (lR s) h fun v d=>cS held Hd d (K (s.put N o.dst v) h)
 |false=>tY P W o.op (lR s) s.ds h (fun v nU h'=>K (({ s with ds:=nU }:St).put N o.dst v) h') (QP s.ds)
def nu(P:Program)(N:Nat)(W:Nat->Nat->Prop)(Hd:Nat->Nat->Prop)(QP:List fi->AV->AH->Prop)(ops:Array Oper):List (Nat×Bool)->(St->AH->Prop)->St->AH->Prop
 |[],K,s,h=>K s h
 |x::rest,K,s,h=>match ops[x.1]? with
  |some o=>rh P N (W x.1) (Hd x.1) QP x.2 o (nu P N W Hd QP ops rest K) s h
  |none=>False
def Cy(N:Nat)(ops:Array Oper):List (Nat×Bool)->St->St
 |[],s=>s
 |x::rest,s=>Cy N ops rest (s.put N (lj ops x.1) ab)
def aE(x:AV)(a b:Prop):Prop:=
 match x with
 |.sc (.bool t)=>(t=true->a)/\(t=false->b)
 |_=>False
def bd(want:Bool)(x:AV)(a b:Prop):Prop:=
 match x with
 |.sc (.bool t)=>(t=want->a)/\(t=(!want)->b)
 |.sc (.tuple _)=>b
 |_=>False
def kW(P:Program)(N:Nat)(W:Nat->Nat->Prop)(Hd:Nat->Nat->Prop)(QP:List fi->AV->AH->Prop)(ops:Array Oper):List (Option (Nat×Bool)×List (Nat×Bool))->(St->AH->Prop)->St->AH->Prop
 |[],K,s,h=>K s h
 |(none,is)::rest,K,s,h=>nu P N W Hd QP ops is (kW P N W Hd QP ops rest K) s h
 |(some (j,want),is)::rest,K,s,h=>match lj ops j with
  |some d=>bd want (s.tm d) (nu P N W Hd QP ops is (kW P N W Hd QP ops rest K) s h) (kW P N W Hd QP ops rest K (Cy N ops is s) h)
  |none=>False
def me:Nat->Nat->Prop:=fun _ _=>False
mutual
def wS(P:Program)(N:Nat)(W:Nat->Nat->Prop)(Hd:Nat->Nat->Prop)(QP:List fi->AV->AH->Prop)(ops:Array Oper):Way->(St->AH->Prop)->St->AH->Prop
 |.mk path ws,K,s,h=>nu P N W Hd QP ops path (match ws with
   |[]=>K
   |_::_=>fun s h=>nH P N W Hd QP ops ws K s h) s h
def nH(P:Program)(N:Nat)(W:Nat->Nat->Prop)(Hd:Nat->Nat->Prop)(QP:List fi->AV->AH->Prop)(ops:Array Oper):List Way->(St->AH->Prop)->St->AH->Prop
 |[],_,_,_=>True
 |w::r,K,s,h=>wS P N W Hd QP ops w K s h/\nH P N W Hd QP ops r K s h
end
def sW(P:Program)(N:Nat)(W:Nat->Nat->Prop)(Hd:Nat->Nat->Prop)(QP:List fi->AV->AH->Prop)(ops:Array Oper)(p:tC)(K:St->AH->Prop)(s:St)(h:AH):Prop:=
 match p.alts with
 |[]=>kW P N W Hd QP ops p.gq K s h
 |alts=>kW P N W Hd QP ops p.gq (nH P N W Hd QP ops alts K) s h
abbrev sB:Nat->Prop:=fun _=>False
def CB(pu:List Nat)(W:Nat->Nat->Prop)(j:Nat):Nat->Prop:=match pu.contains j with
 |true=>sB
 |false=>W j
abbrev kL(W:Nat->Prop)(Hd:Nat->Nat)(l:List Nat):Nat->Prop:=fun id=>W id/\∀i∈l,id≠Hd i
def Vq(W:Nat->Prop)(Hd:Nat->Nat):List Nat->Nat->Prop
 |[]=>W
 |i::l=>kL W Hd (i::l)
theorem HL{W:Nat->Prop}{Hd:Nat->Nat}:∀{l:List Nat}{id:Nat},Vq W Hd l id->W id/\∀i∈l,id≠Hd i
 |[],_,h=>⟨h,fun _ h=>by simp at h⟩
 |_::_,_,h=>h
def aby(W:Nat->Prop)(Hd:Nat->Nat)(B hl:List Nat)(j:Nat):Nat->Prop:=Vq W Hd (hl.filter fun i=>!(B.getD j 0).testBit i)
def kM(P:Program)(N:Nat)(W:Nat->Prop)(QP:List fi->AV->AH->Prop)(pl:dm)(id:Nat)(ops:Array Oper)(K:St->AH->Prop)(s:St)(h:AH):Prop:=
 match rE pl id with
 |none=>nu P N (fun _=>W) me QP ops (i_ ops.size) K s h
 |some p=>match p.held with
  |false=>sW P N (CB p.pure fun _=>W) me QP ops p K s h
  |true=>∃Hd:Nat->Nat,(∀i∈iS p,h.obj (Hd i)≠none)/\sW P N (CB p.pure (aby W Hd (iL .any ops) (iS p))) (fun i id=>id=Hd i) QP ops p K s h
def ka(Hd:Nat->Prop)(E0:Env)(h0:AH)(w0 w:World):Prop:=∀id B,Hd id->h0.obj id≠none->E0 id=some B->w.heap[B.b]?=w0.heap[B.b]?
def TT(P:Program)(S:World->Prop)(o:Oper)(held:Bool)(w0:World):World->Prop:=fun w=>nn P o.op=true->if held then S w else gA w0 w
structure Md (P:Program) (ops:Array Oper) (Q:Exit->Act->World->Prop) (C:Nat->Nat->Bool) (S:Nat->World->Prop) (pu:Nat->Bool) (order:List (Nat×Bool)) (k1:Nat) (D:Nat->Act->World->Prop):Prop where
 quiet:∀k i held o v a w,k1<=k->order[k]?=some (i,held)->ops[i]?=some o->sI o.op=true->Yq P ops (TT P (S i) o held w) o v a->(held=true->S i w)->D (k+1) (a.put o.dst v) w->D k a w
 FD:∀k i held o a w,k1<=k->order[k]?=some (i,held)->ops[i]?=some o->sI o.op=false->wpOp P ops Q i (fun a' w'=>((∀l,C i l=true->S l w')/\(EL o.op=true\/pu i=true->gA w w'))/\D (k+1) a' w') a w->D k a w
section
variable {N:Nat} {W:Nat->Prop} {QP:List fi->AV->AH->Prop} {ops:Array Oper} {Q:Exit->Act->World->Prop} {order:List (Nat×Bool)} {D:Nat->Act->World->Prop}
 {E0:Env} {h0:AH} {w0:World}
def Vi:Value->Option Bool
 |.bool b=>some b
 |_=>none
def xi(ops:Array Oper)(g:Option (Nat×Bool))(pQ:Bool)(s:St):Prop:=
 match g with
 |none=>pQ=true
 |some (j,want)=>∃d,lj ops j=some d/\(s.tm d=.sc (.bool (if pQ then want else !want))\/pQ=false/\∃l,s.tm d=.sc (.tuple l))
theorem Cs{g:Option (Nat×Bool)}{pQ:Bool}{s:St}{a:Act}{E:Env}(hg:xi ops g pQ s)(ha:AR E N s a){o:Oper}(ho:o.guard=g):Region.wanted o (yielded ops a.tmps)=pQ:=by
 unfold Region.wanted
 rw[ho]
 cases g with
 |none=>exact hg.symm
 |some g=>
  obtain⟨j,want⟩:=g
  obtain⟨d,hd,hs⟩:=hg
  have h1:=ha.tm d
  unfold lj at hd
  have hy:yielded ops a.tmps j=Vi (a.tmps.getD d undef):=by
   unfold yielded
   simp only[hd]
   rw[Array.getD_eq_getD_getElem?]
   show(match a.tmps[d]? with |some (.bool b)=>some b |_=>none)=_
   generalize a.tmps[d]?=y
   cases y with
   |none=>rfl
   |some v=>cases v<;>rfl
  show(yielded ops a.tmps j==some want)=pQ
  rw[hy]
  rcases hs with hs |⟨ZI,l,hs⟩
  ·rw[hs]at h1
   have h2:a.tmps.getD d undef=.bool (if pQ then want else !want):=by
    generalize a.tmps.getD d undef=v at h1
    cases h1;rfl
   rw[h2]
   cases pQ<;>cases want<;>rfl
  ·rw[hs]at h1
   have h2:a.tmps.getD d undef=.tuple l:=by
    generalize a.tmps.getD d undef=v at h1
    cases h1;rfl
   rw[h2,ZI];rfl
def Ob(ops:Array Oper)(g:Option (Nat×Bool))(dst:Option Nat):Prop:=∀j want d,g=some (j,want)->lj ops j=some d->dst≠some d
theorem xi.put{g:Option (Nat×Bool)}{pQ:Bool}{s:St}(hg:xi ops g pQ s){dst:Option Nat}(hd:Ob ops g dst)(v:AV)(ds:List fi) :
  xi ops g pQ (({ s with ds:=ds }:St).put N dst v):=by
 cases g with
 |none=>exact hg
 |some g=>
  obtain⟨j,want⟩:=g
  obtain⟨d,h1,h2⟩:=hg
  refine⟨d,h1,?_⟩
  have h3:=hd j want d rfl h1
  have gp:∀(P:AV->Prop),P (s.tm d)->P (({ s with ds:=ds }:St).put N dst v |>.tm d):=by
   intro P hP
   cases dst with
   |none=>exact hP
   |some e=>
    simp only[St.put]
    split
    ·simp only[eZ]
     rw[zW (fun h=>h3 (by rw[h]))]
     exact hP
    ·exact hP
  exact gp (fun x=>x=.sc (.bool (if pQ then want else !want))\/pQ=false/\∃l,x=.sc (.tuple l)) h2
theorem AR.nU{E:Env}{s:St}{a:Act}(h:AR E N s a):({ s with ds:=s.ds }:St)=s:=rfl
end
end
section
variable {P:Program} {N:Nat} {W:Nat->Prop} {Hd:Nat->Nat->Prop} {QP:List fi->AV->AH->Prop} {ops:Array Oper} {Q:Exit->Act->World->Prop} {order:List (Nat×Bool)} {D:Nat->Act->World->Prop}
 {E0:Env} {h0:AH} {w0:World}
structure H4 (P:Program) (N:Nat) (ops:Array Oper) (hl:List Nat) (C:Nat->Nat->Bool) (pu:Nat->Bool) (order:List (Nat×Bool)) (W:Nat->Prop) (Wf:Nat->Nat->Prop) (Hd:Nat->Nat->Prop) (QP:List fi->AV->AH->Prop) (Q:Exit->Act->World->Prop) (E0:Env) (h0:AH) (w0:World):Prop where
 rel:Rel E0 h0 w0
 hd:∀i id,hl.contains i=true->Hd i id->h0.obj id≠none
 w:∀j i id,C j i=true->Hd i id->¬Wf j id
 wf:∀j id,Wf j id->W id
 pw:∀j id,pu j=true->¬Wf j id
 hc:∀j i,C j i=true->hl.contains i=true
 hh:∀(k:Nat)(x:Nat×Bool),order[k]?=some x->x.2=true->hl.contains x.1=true
 ord:uu ops hl C order=true
 bV:∀v E' h' w' u a ds,Step E0 h0 W w0 E' h' w'->VR E' v u->BG E' ds a.defers->QP ds v h'->Q (.panic [{ v:=u,recovered:=false }]) a w'
theorem ur{C:Nat->Nat->Bool}{k i:Nat}{x:Nat×Bool}(hk:order[k]?=some x):vb ops C order (k+1) i=(vb ops C order k i&&(Az ops x.1||C x.1 i)):=by
 unfold vb
 rw[List.take_add_one,hk]
 simp
theorem BT{hl:List Nat}{C:Nat->Nat->Bool}(h:uu ops hl C order=true){k:Nat}{x:Nat×Bool}(hk:order[k]?=some x){o:Oper}(ho:ops[x.1]?=some o) :
  (x.2=true->vb ops C order k x.1=true)/\(sI o.op=false->∀i,hl.contains i=true->C x.1 i=true->vb ops C order k i=true):=by
 unfold uu at h
 rw[List.all_eq_true]at h
 have:=h k (List.mem_range.2 (zM.1 hk).1)
 rw[hk]at this
 simp only[yC,Bool.or_eq_true,Bool.not_eq_true',List.all_eq_true]at this
 refine⟨fun hx=>?_,fun hq i hi hc=>?_⟩
 ·rcases this.1 with h1 |h1
  ·rw[hx]at h1;cases h1
  ·exact h1
 ·rcases this.2 with h1 |h1
  ·unfold Az at h1;rw[ho]at h1;simp only at h1;rw[hq]at h1;cases h1
  ·rcases h1 i (by simpa using hi) with h2 |h2
   ·rw[hc]at h2;cases h2
   ·exact h2
def HI(ops:Array Oper)(hl:List Nat)(C:Nat->Nat->Bool)(order:List (Nat×Bool))(Hd:Nat->Nat->Prop)(E0:Env)(h0:AH)(w0:World)(k:Nat)(h:AH)(w:World):Prop:=
 ∀i,hl.contains i=true->vb ops C order k i=true->∀id,Hd i id->h.obj id=h0.obj id/\∀B,E0 id=some B->w.heap[B.b]?=w0.heap[B.b]?
theorem HI.start{hl:List Nat}{C:Nat->Nat->Bool}{k:Nat}:HI ops hl C order Hd E0 h0 w0 k h0 w0:=fun _ _ _ _ _=>⟨rfl,fun _ _=>rfl⟩
theorem HI.next{hl:List Nat}{C:Nat->Nat->Bool}{k:Nat}{h:AH}{w:World}(hi:HI ops hl C order Hd E0 h0 w0 k h w){x:Nat×Bool}(hk:order[k]?=some x):HI ops hl C order Hd E0 h0 w0 (k+1) h w:=fun i h1 h2=>by
 rw[ur hk,yC]at h2
 exact hi i h1 h2.1
theorem HI.held{hl:List Nat}{C:Nat->Nat->Bool}{k:Nat}{h:AH}{w:World}(hi:HI ops hl C order Hd E0 h0 w0 k h w){i:Nat}(h1:hl.contains i=true)(h2:vb ops C order k i=true):ka (Hd i) E0 h0 w0 w:=fun id B h3 _ h5=>(hi i h1 h2 id h3).2 B h5
theorem HI.FD{hl:List Nat}{C:Nat->Nat->Bool}{pu:Nat->Bool}{Wf:Nat->Nat->Prop}(cx:H4 P N ops hl C pu order W Wf Hd QP Q E0 h0 w0){k:Nat}{E E':Env}{h h':AH}{w w':World}(hi:HI ops hl C order Hd E0 h0 w0 k h w)(hs:Step E0 h0 W w0 E h w){x:Nat×Bool}(hk:order[k]?=some x)(hq:Az ops x.1=false)
  (h1:Step E h (Wf x.1) w E' h' w'):HI ops hl C order Hd E0 h0 w0 (k+1) h' w':=by
 intro i hc hp id hd
 rw[ur hk,yC,hq,Bool.false_or]at hp
 obtain⟨e1,e2⟩:=hi i hc hp.1 id hd
 have cC:=cx.hd i id hc hd
 have Yd:=cx.w x.1 i id hp.2 hd
 have Cb:h.obj id≠none:=by rw[e1];exact cC
 refine⟨by rw[h1.dA id (AH.Ky Cb) Yd,e1],fun B hB=>?_⟩
 have c_:=hs.env id B hB
 cases ho:h.obj id with
 |none=>exact absurd ho Cb
 |some o=>
  obtain⟨B2,Dg,hO⟩:=hs.rel.obj id o ho
  rw[c_]at Dg;cases Dg
  rw[<-e2 B hB]
  refine h1.frame B.b hO.lt ?_
  intro qc B' o' ji dJ ZU hE' qg
  rcases hs.rel.inj qc id o' o B' B dJ ho hE' c_ qg with this |this
  ·subst this
   exact Yd ji
  ·rw[ZU]at this;cases this.1
theorem QZ{op:Op}{ρ:Operand->AV}{h:AH}{K:AV->Option Nat->Prop}(hp:qOp P op ρ h K):qOp P op ρ h (fun v d=>K v d/\∀id,d=some id->h.obj id≠none):=by
 cases hl:nn P op with
 |false=>exact qOp_mono (fun v d h1 h2=>⟨h2,fun id e=>by rw[h1 hl]at e;cases e⟩) hp
 |true=>
  cases op<;>simp only[nn,zE]at hl
  case convert s d x=>
   simp only[qOp,hl]at hp ⊢
   unfold qx at hp ⊢
   split at hp
   ·obtain⟨o,l,⟨h1,h2,h3⟩,h4⟩:=hp
    exact⟨o,l,⟨h1,h2,h3⟩,h4,fun id e=>by cases e;rw[h1];simp⟩
   ·exact hp.elim
  case lookup t m x ok=>
   simp only[qOp]at hp ⊢
   unfold fX at hp ⊢
   split at hp
   ·obtain⟨o,l,⟨h1,h2⟩,h3⟩:=hp
    exact⟨o,l,⟨h1,h2⟩,qW (fun v hv=>⟨hv,fun id e=>by cases e;rw[h1];simp⟩) h3⟩
   ·exact qW (fun v hv=>⟨hv,fun id e=>by cases e⟩) hp
   ·exact hp.elim
  simp only[qOp]at hp ⊢
  unfold ai at hp ⊢
  split at hp
  ·obtain⟨o,c,⟨h1,h2,h3⟩,h4⟩:=hp
   exact⟨o,c,⟨h1,h2,h3⟩,h4,fun id e=>by cases e;rw[h1];simp⟩
  ·obtain⟨o,⟨h1,h2,h3⟩,h4⟩:=hp
   exact⟨o,⟨h1,h2,h3⟩,h4,fun id e=>by cases e;rw[h1];simp⟩
  ·exact hp.elim
theorem I7{op:Op}(hA:EL op=true){ρ:Operand->AV}{ds:List fi}{h:AH}{K:AV->List fi->AH->Prop}{KP:AV->AH->Prop}(hp:tY P W op ρ ds h K KP):tY P (fun _=>False) op ρ ds h K KP:=by
 cases op<;>simp only[EL,zE]at hA<;>first |exact hp |(rename_i t r;cases r<;>first |exact hp |exact hp.elim)
theorem HA{E:Env}{w:World}{s:St}{a:Act}{h:AH}{K:AV->List fi->AH->Prop}{KP:AV->AH->Prop}(o:Oper)(hr:Rel E h w)(ha:AR E N s a)
  (hp:tY P W o.op (lR s) s.ds h K KP) {next:Act->World->Prop} {Q:Exit->Act->World->Prop}
  (hn:∀v nU E' h' w' a',Step E h W w E' h' w'->(EL o.op=true\/(∀id,¬W id)->gA w w')->AR E' N (({ s with ds:=nU }:St).put N o.dst v) a'->K v nU h'->next a' w')
  (hq:∀v E' h' w' u,Step E h W w E' h' w'->VR E' v u->KP v h'->Q (.panic [{ v:=u,recovered:=false }]) a w'):o.wp P a w next Q:=by
 by_cases hA:EL o.op=true
 ·refine FE o hr ha (I7 hA hp) ?_ ?_
  ·intro v nU E' h' w' a' h1 h2 h3
   exact hn v nU E' h' w' a' ((Step.refl hr).trans hr h1 (fun id _ hm=>hm.elim)) (fun _ b hb=>h1.frame b hb fun _ _ _ hm=>hm.elim) h2 h3
  ·intro v E' h' w' u h1 h2 h3
   exact hq v E' h' w' u ((Step.refl hr).trans hr h1 (fun id _ hm=>hm.elim)) h2 h3
 ·exact FE o hr ha hp (fun v nU E' h' w' a' h1 h2 h3=>hn v nU E' h' w' a' h1 (fun h=>h.elim (fun h=>absurd h hA) fun hn b hb=>h1.frame b hb fun id _ _ hm=>absurd hm (hn id)) h2 h3) hq
theorem Bp{hl:List Nat}{C:Nat->Nat->Bool}{pu:Nat->Bool}{Wf:Nat->Nat->Prop}(cx:H4 P N ops hl C pu order W Wf Hd QP Q E0 h0 w0){k1:Nat}(dv:Md P ops Q C (fun i=>ka (Hd i) E0 h0 w0) pu order k1 D)(g:Option (Nat×Bool)){K:St->AH->Prop} :
  ∀(is:List (Nat×Bool))(k:Nat)(s:St)(a:Act)(E:Env)(h:AH)(w:World),k1<=k->(∀m x,is[m]?=some x->order[k+m]?=some x)->nC ops (g,is)=true->xi ops g true s ->
   Step E0 h0 W w0 E h w->HI ops hl C order Hd E0 h0 w0 k h w->AR E N s a->nu P N Wf Hd QP ops is K s h ->
   (∀s' a' E' h' w',Step E0 h0 W w0 E' h' w'->HI ops hl C order Hd E0 h0 w0 (k+is.length) h' w'->AR E' N s' a'->K s' h'->D (k+is.length) a' w')->D k a w
 |[],k,s,a,E,h,w,_,_,_,_,hs,hI,ha,he,hK=>hK s a E h w hs hI ha he
 |x::is,k,s,a,E,h,w,lJ,ho,hg,hi,hs,hI,ha,he,hK=>by
  obtain⟨i,held⟩:=x
  have hk:order[k]?=some (i,held):=by simpa using ho 0 (i,held) rfl
  simp only[nu]at he
  split at he
  ·rename_i o jd
   simp only[nC,List.all_cons,jd,yC]at hg
   obtain⟨⟨Hl,qf⟩,PT⟩:=hg
   have E9:o.guard=g:=by simpa using Hl
   have IZ:Ob ops g o.dst:=by
    intro j want d lL hd
    subst lL
    simp only[hd]at qf
    simpa using qf
   have uC:=Cs hi ha E9
   have mL:∀m x,is[m]?=some x->order[k+1+m]?=some x:=fun m x hm=>by
    have:=ho (m+1) x (by simpa using hm)
    rw[show k+1+m=k+(m+1) from by omega];exact this
   have uD:=BT cx.ord hk jd
   have P5:held=true->ka (Hd i) E0 h0 w0 w:=fun hp=>hI.held (cx.hh k _ hk hp) (uD.1 hp)
   have UO:=hI.next hk
   have Yz:∀s' a' E' h' w',Step E0 h0 W w0 E' h' w'->HI ops hl C order Hd E0 h0 w0 (k+1+is.length) h' w'->AR E' N s' a'->K s' h'->D (k+1+is.length) a' w':=fun s' a' E' h' w' h1 qh h2 h3=>by
    rw[show k+1+is.length=k+(is.length+1) from by omega]at qh ⊢
    exact hK s' a' E' h' w' h1 qh h2 h3
   unfold rh at he
   split at he
   ·rename_i hq
    have oY:=qOp_mono (K':=fun v d=>(nn P o.op=false->d=none)/\cS held (Hd i) d (nu P N Wf Hd QP ops is K (s.put N o.dst v) h)/\∀id,d=some id->h.obj id≠none) (fun v d h1 h2=>⟨h1,h2⟩) (QZ he)
    obtain⟨av,u,d,hv,⟨Dc,vk,hd4⟩,hd3,gC⟩:=JZ o hs.rel ha oY
    have kF:nu P N Wf Hd QP ops is K (s.put N o.dst av) h:=by
     unfold cS at vk
     split at vk
     ·exact vk
     ·exact vk.2
    refine dv.quiet k i held o u a w lJ hk jd hq (.inl ⟨uC,fun w' ji=>gC w' ?_⟩) P5 ?_
    ·intro id B PY hB
     cases hl:nn P o.op with
     |false=>rw[Dc hl]at PY;cases PY
     |true=>
      cases held with
      |false=>
       have ji:gA w w':=by simpa using ji hl
       have kT:=hd4 id PY
       cases ho:h.obj id with
       |none=>exact absurd ho kT
       |some o2=>
        obtain⟨B2,Dg,K_⟩:=hs.rel.obj id o2 ho
        rw[hB]at Dg;cases Dg
        exact ji B.b K_.lt
      |true=>
       have hS:=P5 rfl
       have ji:ka (Hd i) E0 h0 w0 w':=by simpa using ji hl
       simp only[cS,PY]at vk
       have Nd:=cx.hd i id (cx.hh k _ hk rfl) vk.1
       obtain⟨B0,gy⟩:=cx.rel.Vb Nd
       have:=hs.env id B0 gy
       rw[hB]at this;cases this
       rw[ji id B vk.1 Nd gy,hS id B vk.1 Nd gy]
    ·exact Bp cx dv g is (k+1) _ _ E h w (by omega) mL PT (by simpa using hi.put IZ av s.ds) hs UO (ha.put _ hv) kF Yz
   ·rename_i hq
    refine dv.FD k i held o a w lJ hk jd hq ?_
    unfold wpOp
    simp only[jd,uC,zV]
    have jG:sI o.op=false:=by simpa using hq
    have AZ:Az ops i=false:=by unfold Az;rw[jd];exact jG
    refine .inl (HA o hs.rel ha he ?_ ?_)
    ·intro v nU E' h' w' a' h1 hA h2 h3
     have KX:=hs.trans cx.rel h1 (fun id _ hm=>.inl (cx.wf i id hm))
     have Lc:=HI.FD cx hI hs hk AZ h1
     refine⟨⟨fun l hc=>?_,fun hh=>hA (hh.imp (fun h=>h) fun hp id hw=>cx.pw i id hp hw)⟩,Bp cx dv g is (k+1) _ _ E' h' w' (by omega) mL PT (hi.put IZ v nU) KX Lc h2 h3 Yz⟩
     have mm:=cx.hc i l hc
     exact Lc.held mm (by rw[ur hk,uD.2 jG l mm hc,hc,Bool.or_true];rfl)
    ·intro v E' h' w' u h1 h2 h3
     exact cx.bV v E' h' w' u a s.ds (hs.trans cx.rel h1 (fun id _ hm=>.inl (cx.wf i id hm))) h2 (ha.ds.mono h1.env) h3
  ·exact he.elim
theorem JK{hl:List Nat}{C:Nat->Nat->Bool}{pu:Nat->Bool}{Wf:Nat->Nat->Prop}(cx:H4 P N ops hl C pu order W Wf Hd QP Q E0 h0 w0){k1:Nat}(dv:Md P ops Q C (fun i=>ka (Hd i) E0 h0 w0) pu order k1 D)(g:Option (Nat×Bool)) :
  ∀(is:List (Nat×Bool))(k:Nat)(s:St)(a:Act)(E:Env)(h:AH)(w:World),k1<=k->(∀m x,is[m]?=some x->order[k+m]?=some x)->nC ops (g,is)=true->xi ops g false s ->
   Step E0 h0 W w0 E h w->HI ops hl C order Hd E0 h0 w0 k h w->AR E N s a ->
   (∀a',Step E0 h0 W w0 E h w->HI ops hl C order Hd E0 h0 w0 (k+is.length) h w->AR E N (Cy N ops is s) a'->D (k+is.length) a' w)->D k a w
 |[],k,s,a,E,h,w,_,_,_,_,hs,hI,ha,hK=>hK a hs hI ha
 |x::is,k,s,a,E,h,w,lJ,ho,hg,hi,hs,hI,ha,hK=>by
  obtain⟨i,held⟩:=x
  have hk:order[k]?=some (i,held):=by simpa using ho 0 (i,held) rfl
  have ZX:∃o,ops[i]?=some o:=by
   simp only[nC,List.all_cons,yC]at hg
   cases h:ops[i]? with
   |none=>rw[h]at hg;simp at hg
   |some o=>exact⟨o,rfl⟩
  obtain⟨o,jd⟩:=ZX
  simp only[nC,List.all_cons,jd,yC]at hg
  obtain⟨⟨Hl,qf⟩,PT⟩:=hg
  have E9:o.guard=g:=by simpa using Hl
  have IZ:Ob ops g o.dst:=by
   intro j want d lL hd
   subst lL
   simp only[hd]at qf
   simpa using qf
  have uC:=Cs hi ha E9
  have mL:∀m x,is[m]?=some x->order[k+1+m]?=some x:=fun m x hm=>by
   have:=ho (m+1) x (by simpa using hm)
   rw[show k+1+m=k+(m+1) from by omega];exact this
  have uD:=BT cx.ord hk jd
  have P5:held=true->ka (Hd i) E0 h0 w0 w:=fun hp=>hI.held (cx.hh k _ hk hp) (uD.1 hp)
  have UO:=hI.next hk
  have Wn:lj ops i=o.dst:=by simp[lj,jd]
  have next:D (k+1) (a.put o.dst undef) w:=by
   refine JK cx dv g is (k+1) (s.put N o.dst ab) _ E h w (by omega) mL PT (by simpa using hi.put IZ ab s.ds) hs UO (ha.put _ (.sc _)) ?_
   intro a' nr yu tU
   rw[show k+1+is.length=k+(is.length+1) from by omega]at yu ⊢
   exact hK a' nr yu (by simp only[Cy,Wn];exact tU)
  by_cases hq:sI o.op=true
  ·exact dv.quiet k i held o undef a w lJ hk jd hq (.inr ⟨uC,rfl⟩) P5 next
  ·refine dv.FD k i held o a w lJ hk jd (by simpa using hq) ?_
   unfold wpOp
   simp only[jd,uC,zE,if_false]
   exact⟨⟨fun l hc=>hI.held (cx.hc i l hc) (uD.2 (by simpa using hq) l (cx.hc i l hc) hc),fun _=>gA.refl⟩,next⟩
theorem Bq{hl:List Nat}{C:Nat->Nat->Bool}{pu:Nat->Bool}{Wf:Nat->Nat->Prop}(cx:H4 P N ops hl C pu order W Wf Hd QP Q E0 h0 w0){k1:Nat}(dv:Md P ops Q C (fun i=>ka (Hd i) E0 h0 w0) pu order k1 D){K:St->AH->Prop}
  (Uy:∀s' a' E' h' w',Step E0 h0 W w0 E' h' w'->HI ops hl C order Hd E0 h0 w0 order.length h' w'->AR E' N s' a'->K s' h'->D order.length a' w') :
  ∀(gs:List (Option (Nat×Bool)×List (Nat×Bool)))(k:Nat)(s:St)(a:Act)(E:Env)(h:AH)(w:World),k1<=k->(∀m,(gs.flatMap (·.2))[m]?=order[k+m]?)->k+(gs.flatMap (·.2)).length=order.length->gs.all (nC ops)=true ->
   Step E0 h0 W w0 E h w->HI ops hl C order Hd E0 h0 w0 k h w->AR E N s a->kW P N Wf Hd QP ops gs K s h->D k a w
 |[],k,s,a,E,h,w,_,ho,K1,_,hs,hI,ha,he=>by
  have:k=order.length:=by simpa using K1
  rw[this]at hI ⊢
  exact Uy s a E h w hs hI ha he
 |(g,is)::gs,k,s,a,E,h,w,lJ,ho,K1,hg,hs,hI,ha,he=>by
  simp only[List.flatMap_cons,List.length_append]at K1
  simp only[List.all_cons,yC]at hg
  obtain⟨Hl,qf⟩:=hg
  have Ug:∀m x,is[m]?=some x->order[k+m]?=some x:=by
   intro m x hm
   rw[<-ho m]
   simp only[List.flatMap_cons]
   rw[List.getElem?_append_left (zM.1 hm).1]
   exact hm
  have Wp:∀m,(gs.flatMap (·.2))[m]?=order[k+is.length+m]?:=by
   intro m
   have:=ho (is.length+m)
   simp only[List.flatMap_cons]at this
   rw[List.getElem?_append_right (by omega),Nat.add_sub_cancel_left]at this
   rw[this,Nat.add_assoc]
  have rest:∀s' a' E' h' w',Step E0 h0 W w0 E' h' w'->HI ops hl C order Hd E0 h0 w0 (k+is.length) h' w'->AR E' N s' a'->kW P N Wf Hd QP ops gs K s' h'->D (k+is.length) a' w':=
   fun s' a' E' h' w' h1 qh h2 h3=>Bq cx dv Uy gs (k+is.length) s' a' E' h' w' (by omega) Wp (by omega) qf h1 qh h2 h3
  have pQ:xi ops g true s->nu P N Wf Hd QP ops is (kW P N Wf Hd QP ops gs K) s h->D k a w:=fun hi he=>Bp cx dv g is k s a E h w lJ Ug Hl hi hs hI ha he rest
  have no:xi ops g false s->kW P N Wf Hd QP ops gs K (Cy N ops is s) h->D k a w:=fun hi he=>JK cx dv g is k s a E h w lJ Ug Hl hi hs hI ha fun a' nr yu tU=>rest _ a' E h w nr yu tU he
  cases g with
  |none=>exact pQ rfl he
  |some g=>
   obtain⟨j,want⟩:=g
   simp only[kW]at he
   split at he
   ·rename_i d hd
    unfold bd at he
    split at he
    ·rename_i t ht
     by_cases hw:t=want
     ·exact pQ ⟨d,hd,.inl (by simpa[<-hw] using ht)⟩ (he.1 hw)
     ·have ji:t=!want:=by cases t<;>cases want<;>simp_all
      exact no ⟨d,hd,.inl (by simpa[<-ji] using ht)⟩ (he.2 ji)
    ·rename_i l ht
     exact no ⟨d,hd,.inr ⟨rfl,l,ht⟩⟩ he
    ·exact he.elim
   ·exact he.elim
end
section
variable {P:Program} {N:Nat} {W:Nat->Prop} {QP:List fi->AV->AH->Prop} {ops:Array Oper} {Q:Exit->Act->World->Prop}
theorem drop_cons{order:List (Nat×Bool)}{k:Nat}{x:Nat×Bool}(hk:order[k]?=some x):order.drop k=x::order.drop (k+1):=by
 have aM:=(zM.1 hk).1
 rw[List.drop_eq_getElem_cons aM];congr 1
 rw[zJ aM]at hk;exact Option.some.inj hk
theorem Ly{C:Nat->Nat->Bool}{S:Nat->World->Prop}{pu:Nat->Bool}(order:List (Nat×Bool)):Md P ops Q C S pu order 0 (fun k a w=>wpOps P ops Q ((order.drop k).map (·.1)) a w) where
 quiet k i held o v a w _ hk jd hq hy hS hD:=by
  show wpOps P ops Q ((order.drop k).map (·.1)) a w
  rw[drop_cons hk,List.map_cons,wpOps_cons]
  exact Yq.wpOp jd hy (fun _=>by split;exact hS ‹_›;exact gA.refl) hD
 FD k i held o a w _ hk jd hq hw:=by
  show wpOps P ops Q ((order.drop k).map (·.1)) a w
  rw[drop_cons hk,List.map_cons,wpOps_cons]
  exact wpOp_mono (fun a' w' h=>h.2) hw
def b7(n:Nat)(order:List (Nat×Bool))(k:Nat):Array Bool:=gJ (order.take k) (Array.replicate n false)
theorem qz{n:Nat}{order:List (Nat×Bool)}{k:Nat}{x:Nat×Bool}(hk:order[k]?=some x):b7 n order (k+1)=(b7 n order k).setIfInBounds x.1 true:=by
 unfold b7 gJ
 rw[List.take_add_one,hk]
 simp
theorem uj{pu B:List Nat}:∀(order:List (Nat×Bool))(listed:Array Bool),rj P pu ops B order listed=true->∀k x,order[k]?=some x->ng P pu ops B (gJ (order.take k) listed) x=true
 |[],listed,h,k,x,hk=>by simp at hk
 |y::order,listed,h,k,x,hk=>by
  simp only[rj,yC]at h
  cases k with
  |zero=>simp at hk;subst hk;simpa[gJ] using h.1
  |succ k=>simpa[gJ] using uj order _ h.2 k x (by simpa using hk)
theorem wg{listed:Array Bool}{i:Nat}{pu B:List Nat}{x:Nat×Bool}(h:ng P pu ops B listed x=true)(hi:x.1=i):i∈Region.ready .any ops listed:=by
 subst hi
 unfold ng at h
 split at h
 ·cases h
 ·split at h
  ·simp only[yC,List.contains_iff_mem]at h;exact h.1
  ·simp only[beq_iff_eq]at h;rw[h];simp
theorem nw{pu B:List Nat}{order:List (Nat×Bool)}{k1:Nat}(eM:∀k x,k1<=k->order[k]?=some x->ng P pu ops B (b7 ops.size order k) x=true)(mm:hU .any ops (b7 ops.size order k1)) :
  ∀m,hU .any ops (b7 ops.size order (k1+m))
 |0=>mm
 |m+1=>by
  cases hk:order[k1+m]? with
  |none=>
   have:b7 ops.size order (k1+(m+1))=b7 ops.size order (k1+m):=by
    unfold b7;rw[<-Nat.add_assoc,List.take_add_one,hk];simp
   rw[this];exact nw eM mm m
  |some x=>
   rw[<-Nat.add_assoc,qz hk]
   exact(nw eM mm m).set (wg (eM _ x (by omega) hk) rfl)
theorem tv(order:List (Nat×Bool)):hU .any ops (b7 ops.size order 0):=by
 intro j o hj
 simp only[b7,gJ,List.take_zero,List.foldl_nil]at hj
 rw[Array.getD_eq_getD_getElem?]at hj
 simp only[Array.getElem?_replicate]at hj
 split at hj<;>cases hj
theorem zp{hl pu:List Nat}{S:Nat->World->Prop}(hSh:∀l w w',S l w->w'.heap=w.heap->S l w')(hQ:∀dst v c a w,Q (.panic c) (Act.put a dst v) w->Q (.panic c) a w){order:List (Nat×Bool)}{k1:Nat}
  (ww:Region.noSelect ops=true) (hh:∀(k:Nat)(x:Nat×Bool),order[k]?=some x->x.2=true->hl.contains x.1=true) (eM:∀k x,k1<=k->order[k]?=some x->ng P pu ops (iL .any ops) (b7 ops.size order k) x=true) (mm:hU .any ops (b7 ops.size order k1)) (hlen:order.length<=ops.size) :
  Md P ops Q (CC (iL .any ops) hl) S (fun i=>pu.contains i) order k1 (fun k a w=>lX P .any ops Q (CC (iL .any ops) hl) S (fun i=>pu.contains i) (ops.size-k) (b7 ops.size order k) a w) where
 quiet k i held o v a w lJ hk jd hq hy hS hD:=by
  have aM:=(zM.1 hk).1
  have eM:=eM k _ lJ hk
  have lC:=wg eM rfl
  have hn:ops.size-k=(ops.size-(k+1))+1:=by omega
  have aaR:hU .any ops (b7 ops.size order k):=by
   have:=nw (P:=P) (pu:=pu) (ops:=ops) (B:=iL .any ops) (order:=order) (k1:=k1) (by assumption) mm (k-k1)
   rwa [show k1+(k-k1)=k from by omega]at this
  simp only[hn]
  refine Lp jd hq (Region.noSelect_spec ww) (fun c a w=>hQ _ _ c a w) _ _ a w aaR ?_ lC hy (fun _=>by split;exact hS ‹_›;exact gA.refl) ?_
  ·intro j oj E4 ml Pz PD
   unfold ng at eM
   simp only[jd,hq,zV,yC,List.all_eq_true,List.mem_range]at eM
   have aaH:j<ops.size:=(Array.getElem?_eq_some_iff.1 E4).1
   have h2:=eM.2 j aaH
   simp only[E4,Bool.or_eq_true,beq_iff_eq]at h2
   rcases h2 with((h2 |h2) |h2) |h2
   ·exact absurd h2 ml
   ·rw[Pz]at h2;cases h2
   ·exact absurd (LK h2) PD
   ·simp only[yC,Bool.or_eq_true]at h2
    refine⟨h2.1,fun w1 w2 hT hR hl=>?_⟩
    have hT:=hT hl
    unfold RR at hR
    cases held with
    |true=>
     simp only[zV]at hT ⊢
     split at hR
     ·exact hSh i w1 w2 hT hR
     ·rename_i hn
      rcases h2.2 with(h3 |h3) |h3
      ·simp[hl]at h3
      ·exact absurd h3 hn
      ·refine hR.1 i ?_
       unfold CC
       rw[hh k _ hk rfl,Bool.true_and,Bool.not_eq_true']
       cases hb:((iL .any ops).getD j 0).testBit i with
       |false=>rfl
       |true=>exact absurd (LK hb) PD
    |false=>
     simp only[zE,if_false]at hT ⊢
     split at hR
     ·exact hT.trans (.of_heap hR)
     ·rename_i hn
      rcases h2.2 with(h3 |h3) |h3
      ·simp[hl]at h3
      ·exact absurd h3 hn
      ·exact hT.trans (hR.2 (by simpa using h3))
  ·rw[<-qz (x:=(i,held)) hk];exact hD
 FD k i held o a w lJ hk jd hq hw:=by
  have aM:=(zM.1 hk).1
  have eM:=eM k _ lJ hk
  have hn:ops.size-k=(ops.size-(k+1))+1:=by omega
  simp only[hn]
  unfold ng at eM
  simp only[jd,hq,zE,if_false,beq_iff_eq]at eM
  have B9:Region.ready .any ops (b7 ops.size order k)=[i]:=eM
  refine⟨fun h=>(by rw[B9]at h;cases h),fun j hj=>?_⟩
  rw[B9]at hj
  have:j=i:=by simpa using hj
  subst this
  refine wpOp_mono (fun a' w' h=>⟨fun o' dJ=>?_,?_⟩) hw
  ·rw[jd]at dJ;cases dJ
   unfold RR;rw[zW (by simp[hq])];exact h.1
  ·rw[<-qz (x:=(j,held)) hk];exact h.2
theorem GD{draw:Bool}{p:tC}(h:Ew P ops draw p=true) :
  p.gq.all (nC ops)=true/\(draw=false->p.gq.flatMap (·.2)=i_ ops.size/\p.alts=[]) /\
  (draw=true->(rj P p.pure ops (iL .any ops) (p.gq.flatMap (·.2)) (Array.replicate ops.size false)=true/\uu ops (iS p) (CC (iL .any ops) (iS p)) (p.gq.flatMap (·.2))=true)/\Region.noSelect ops=true /\
   Region.ready .any ops (gJ (p.gq.flatMap (·.2)) (Array.replicate ops.size false))=jZ p.alts /\
   (p.alts=[]->(p.gq.flatMap (·.2)).length=ops.size) /\
   (p.alts≠[]->pV P p.pure ops (iL .any ops) (iS p) p.alts (p.gq.flatMap (·.2)) (gJ (p.gq.flatMap (·.2)) (Array.replicate ops.size false))=true)):=by
 unfold Ew at h
 simp only[yC]at h
 obtain⟨h0,h⟩:=h
 refine⟨h0,fun hd=>?_,fun hd=>?_⟩
 ·subst hd
  simp only[yC,beq_iff_eq,List.isEmpty_iff]at h
  exact h
 ·subst hd
  simp only[yC,beq_iff_eq]at h
  obtain⟨⟨⟨⟨h1,h5⟩,h2⟩,h3⟩,h4⟩:=h
  refine⟨⟨h1,h5⟩,h2,h3,fun he=>?_,fun cC=>?_⟩
  ·rw[zX (by simpa using he)]at h4;simpa using h4
  ·rw[zW (by simpa using cC)]at h4;exact h4
theorem A9{p:tC}{x:Nat×Bool}(hx:x∈p.gq.flatMap (·.2)\/x∈oF p.alts)(h2:x.2=true):(iS p).contains x.1=true:=by
 rw[List.contains_iff_mem]
 unfold iS
 exact List.mem_map.2 ⟨x,List.mem_filter.2 ⟨List.mem_append.2 hx,h2⟩,rfl⟩
inductive AX where
 |normal
 |exit (id:Nat)
 |goto (l:Nat)
 |ret
def XR:AX->Exit->Prop
 |.normal,.normal=>True
 |.exit i,.exit j=>i=j
 |.goto i,.goto j=>i=j
 |.ret,.ret=>True
 |_,_=>False
abbrev cG:=AX->St->AH->Prop
abbrev cm:=List fi->AV->AH->Prop
def b_(K:St->AH->Prop)(Q:cG):cG
 |.normal,s,h=>K s h
 |x,s,h=>Q x s h
def eG(id:Nat)(Q:cG):cG
 |.exit j,s,h=>if j=id then Q .normal s h else Q (.exit j) s h
 |x,s,h=>Q x s h
def pP(F:cG->cm->St->AH->Prop):Nat->cG->cm->St->AH->Prop
 |0,_,_,_,_=>False
 |n+1,Q,QP,s,h=>F (b_ (fun s h=>pP F n Q QP s h) Q) QP s h
def lb(F:cG->cm->St->AH->Prop)(Q:cG)(QP:cm)(s:St)(h:AH):Prop:=∃n,pP F n Q QP s h
def pi(Q:cG):cG
 |.goto _,_,_=>False
 |x,s,h=>Q x s h
def aw(P:Program)(N:Nat)(W:Nat->Prop)(pl:dm):Code->cG->cm->St->AH->Prop
 |.skip,Q,_,s,h=>Q .normal s h
 |.label _,Q,_,s,h=>Q .normal s h
 |.exit id,Q,_,s,h=>Q (.exit id) s h
 |.goto l,Q,_,s,h=>Q (.goto l) s h
 |.ret,Q,_,s,h=>Q .ret s h
 |.seq a b,Q,QP,s,h=>aw P N W pl a (b_ (aw P N W pl b Q QP) Q) QP s h
 |.cond c a b,Q,QP,s,h=>aE (lR s c) (aw P N W pl a Q QP s h) (aw P N W pl b Q QP s h)
 |.block id c,Q,QP,s,h=>aw P N W pl c (eG id Q) QP s h
 |.loop c,Q,QP,s,h=>lb (aw P N W pl c) Q QP s h
 |.scope c,Q,QP,s,h=>aw P N W pl c (pi Q) QP s h
 |.region id ops _,Q,QP,s,h=>kM P N W QP pl id ops (Q .normal) s h
 |.rangeFunc ..,_,_,_,_=>False
 |.refuse _,_,_,_,_=>False
def CQ(E0:Env)(h0:AH)(W:Nat->Prop)(w0:World)(N:Nat)(Q:cG)(QP:cm):Exit->Act->World->Prop:=fun e a w=>
 (∃x E h s,XR x e/\Step E0 h0 W w0 E h w/\AR E N s a/\Q x s h) \/
 (∃v u E h ds,e=.panic [{ v:=u,recovered:=false }]/\Step E0 h0 W w0 E h w/\VR E v u/\BG E ds a.defers/\QP ds v h)
theorem CQ.trans{E0 E1:Env}{h0 h1:AH}{w0 w1:World}{Q:cG}{QP:cm}{e:Exit}{a:Act}{w:World}(hr:Rel E0 h0 w0)(hs:Step E0 h0 W w0 E1 h1 w1)(hc:CQ E1 h1 W w1 N Q QP e a w):CQ E0 h0 W w0 N Q QP e a w:=by
 rcases hc with⟨x,E,h,s,a1,a2,a3,a4⟩ |⟨v,u,E,h,ds,a1,a2,a3,a4⟩
 ·exact .inl ⟨x,E,h,s,a1,hs.trans hr a2 (fun _ _ hm=>.inl hm),a3,a4⟩
 ·exact .inr ⟨v,u,E,h,ds,a1,hs.trans hr a2 (fun _ _ hm=>.inl hm),a3,a4⟩
section
variable {hl pu:List Nat} {Wf:Nat->Nat->Prop} {Hd:Nat->Nat->Prop} {K:St->AH->Prop} {E:Env} {h:AH} {w0:World}
structure D2 (P:Program) (N:Nat) (W:Nat->Prop) (QP:List fi->AV->AH->Prop) (ops:Array Oper) (Q:Exit->Act->World->Prop) (hl pu:List Nat) (Wf:Nat->Nat->Prop) (Hd:Nat->Nat->Prop) (K:St->AH->Prop) (E:Env) (h:AH) (w0:World):Prop where
 rel:Rel E h w0
 wf:∀i id,Wf i id->W id
 Xw:Region.noSelect ops=true
 put:∀dst v c a' w',Q (.panic c) (Act.put a' dst v) w'->Q (.panic c) a' w'
 heap:∀(l:Nat)(w1 w2:World),ka (Hd l) E h w0 w1->w2.heap=w1.heap->ka (Hd l) E h w0 w2
 cx:∀ord:List (Nat×Bool),(∀(k:Nat)(x:Nat×Bool),ord[k]?=some x->x.2=true->hl.contains x.1=true)->uu ops hl (CC (iL .any ops) hl) ord=true->H4 P N ops hl (CC (iL .any ops) hl) (fun i=>pu.contains i) ord W Wf Hd QP Q E h w0
 last:∀s' a' E' h' w',Step E h W w0 E' h' w'->AR E' N s' a'->K s' h'->Q .normal a' w'
mutual
theorem SN(dc:D2 P N W QP ops Q hl pu Wf Hd K E h w0):∀(wy:Way)(order:List (Nat×Bool)),xk P pu ops (iL .any ops) hl wy order (b7 ops.size order order.length)=true ->
  (∀(k:Nat)(x:Nat×Bool),order[k]?=some x->x.2=true->hl.contains x.1=true)->(∀x∈wy.DO,x.2=true->hl.contains x.1=true)->hU .any ops (b7 ops.size order order.length) ->
  (∀i,i∈(wy.path.head?.map (·.1))->i∈Region.ready .any ops (b7 ops.size order order.length)) ->
  ∀(s1:St)(a1:Act)(E1:Env)(h1:AH)(w1:World),Step E h W w0 E1 h1 w1->HI ops hl (CC (iL .any ops) hl) order Hd E h w0 order.length h1 w1->AR E1 N s1 a1->wS P N Wf Hd QP ops wy K s1 h1 ->
  ∃i,wy.path.head?.map (·.1)=some i/\order.length<ops.size/\wpOp P ops Q i (fun a' w'=>(∀o,ops[i]?=some o->RR (CC (iL .any ops) hl) (fun l=>ka (Hd l) E h w0) (fun i=>pu.contains i) i o w1 w') /\
   lX P .any ops Q (CC (iL .any ops) hl) (fun l=>ka (Hd l) E h w0) (fun i=>pu.contains i) (ops.size-(order.length+1)) ((b7 ops.size order order.length).setIfInBounds i true) a' w') a1 w1
 |.mk path ws,order,cS,wF,yn,wH,PC,s1,a1,E1,eN,w1,qJ,qh,Bc,A8=>by
  cases path with
  |nil=>simp[xk]at cS
  |cons x rest=>
  obtain⟨i,hd⟩:=x
  refine⟨i,rfl,?_⟩
  unfold xk at cS
  simp only[yC,Nat.ble_eq,beq_iff_eq]at cS
  obtain⟨⟨⟨⟨⟨⟨⟨hq,hso⟩,A7⟩,K1⟩,Nc⟩,X9⟩,aaN⟩,hwo⟩:=cS
  simp only[List.length_cons]at K1
  refine⟨by omega,?_⟩
  have PO:∀(k:Nat)(x:Nat×Bool),(order++(i,hd)::rest)[k]?=some x->x.2=true->hl.contains x.1=true:=fun k x hk hx=>by
   rw[List.getElem?_append]at hk
   split at hk
   ·exact wF k x hk hx
   ·exact yn x (by unfold Way.DO;exact List.mem_append_left _ (zP hk)) hx
  have Wt:i∈Region.ready .any ops (b7 ops.size order order.length):=PC i (by simp[Way.path])
  unfold wS at A8
  cases jd:ops[i]? with
  |none=>rw[jd]at hq;simp at hq
  |some o=>
   rw[jd]at hq
   have jG:sI o.op=false:=by simpa using hq
   simp only[nC,List.all_cons,jd,yC]at A7
   obtain⟨⟨E9,_⟩,A7⟩:=A7
   have E9:o.guard=none:=by simpa using E9
   have uC:Region.wanted o (yielded ops a1.tmps)=true:=by simp[Region.wanted,E9]
   simp only[nu,jd,rh,jG]at A8
   unfold wpOp
   simp only[jd,uC,zV]
   have Cc:∀m x,rest[m]?=some x->(order++(i,hd)::rest)[order.length+1+m]?=some x:=by
    intro m x hm
    rw[List.getElem?_append_right (by omega),show order.length+1+m-order.length=m+1 from by omega];simpa using hm
   have E6:∀m,b7 ops.size (order++(i,hd)::rest) (order.length+1+m)=gJ (rest.take m) ((b7 ops.size order order.length).setIfInBounds i true):=by
    intro m
    unfold b7 gJ
    rw[List.take_append,List.take_of_length_le (by omega),show order.length+1+m-order.length=m+1 from by omega]
    simp
   have Xv:∀k x,order.length+1<=k->(order++(i,hd)::rest)[k]?=some x->ng P pu ops (iL .any ops) (b7 ops.size (order++(i,hd)::rest) k) x=true:=by
    intro k x hk hx
    obtain⟨m,rfl⟩:∃m,k=order.length+1+m:=⟨k-(order.length+1),by omega⟩
    rw[E6]
    refine uj rest _ hso m x ?_
    rw[List.getElem?_append_right (by omega),show order.length+1+m-order.length=m+1 from by omega]at hx
    simpa using hx
   have UG:hU .any ops (b7 ops.size (order++(i,hd)::rest) (order.length+1)):=by
    have:=E6 0
    simp only[Nat.add_zero,List.take_zero]at this
    rw[this]
    exact wH.set Wt
   have IU:b7 ops.size (order++(i,hd)::rest) (order++(i,hd)::rest).length=gJ ((i,hd)::rest) (b7 ops.size order order.length):=by
    rw[show(order++(i,hd)::rest).length=order.length+1+rest.length from by simp;omega,E6]
    simp[gJ]
   have aaQ:hU .any ops (b7 ops.size (order++(i,hd)::rest) (order++(i,hd)::rest).length):=by
    have:=nw (P:=P) (pu:=pu) (ops:=ops) (B:=iL .any ops) (order:=order++(i,hd)::rest) (k1:=order.length+1) Xv UG rest.length
    rwa [show order.length+1+rest.length=(order++(i,hd)::rest).length from by simp;omega]at this
   refine .inl (HA o qJ.rel Bc A8 ?_ ?_)
   ·intro v nU E' h' w' a' b1 bA b2 b3
    have Ql:=dc.cx _ PO Nc
    have sL:(order++(i,hd)::rest)[order.length]?=some (i,hd):=by rw[List.getElem?_append_right (zU _)];simp
    have AZ:Az ops i=false:=by unfold Az;rw[jd];exact jG
    have hph:∀l,vb ops (CC (iL .any ops) hl) (order++(i,hd)::rest) order.length l=vb ops (CC (iL .any ops) hl) order order.length l:=by
     intro l;unfold vb;rw[List.take_append,List.take_of_length_le (zU _)];simp
    have aaW:HI ops hl (CC (iL .any ops) hl) (order++(i,hd)::rest) Hd E h w0 order.length eN w1:=fun l hc hp=>qh l hc (by rw[<-hph];exact hp)
    have uD:=BT Nc sL jd
    have KX:=qJ.trans dc.rel b1 (fun id _ hm=>.inl (dc.wf i id hm))
    have Lc:=HI.FD Ql aaW qJ sL AZ b1
    have hHW:∀l,CC (iL .any ops) hl i l=true->ka (Hd l) E h w0 w':=by
     intro l hc
     have mm:=Ql.hc i l hc
     exact Lc.held mm (by rw[ur sL,uD.2 jG l mm hc,hc,Bool.or_true];rfl)
    refine⟨fun o' dJ=>by cases dJ;unfold RR;rw[zW (by simp[jG])];exact⟨hHW,fun hh=>bA (hh.imp (fun h=>h) fun hp id hw=>Ql.pw i id hp hw)⟩,?_⟩
    have:=Bp Ql (zp (pu:=pu) dc.heap (fun dst v c a w hh=>dc.put dst v c a w hh) dc.Xw PO Xv UG (by simp;omega)) none rest (order.length+1) _ a' E' h' w' (zU _) Cc A7 rfl KX Lc b2 b3 (fun s2 a2 E2 h2 w2 c1 cI c2 c3=>by
     have Wy:order.length+1+rest.length=(order++(i,hd)::rest).length:=by simp;omega
     rw[Wy]at cI ⊢
     cases ws with
     |nil=>
      have hz:ops.size-(order++(i,hd)::rest).length=0:=by simp at aaN ⊢;omega
      simp only[hz,lX]
      refine⟨?_,dc.last s2 a2 E2 h2 w2 c1 c2 c3⟩
      rw[IU,X9];rfl
     |cons wy2 ws2=>
      exact GU dc (wy2::ws2) (order++(i,hd)::rest) (by rw[IU];exact hwo) PO (fun x hx h2=>yn x (by unfold Way.DO;exact List.mem_append_right _ hx) h2) aaQ (by rw[IU];exact X9) (by simp) s2 a2 E2 h2 w2 c1 cI c2 c3)
    have h0:=E6 0
    simp only[Nat.add_zero,List.take_zero]at h0
    rw[h0]at this
    exact this
   ·intro v E' h' w' u b1 b2 b3
    exact(dc.cx _ PO Nc).bV v E' h' w' u a1 s1.ds (qJ.trans dc.rel b1 (fun id _ hm=>.inl (dc.wf i id hm))) b2 (Bc.ds.mono b1.env) b3
termination_by wy=>SizeOf.sizeOf wy
theorem Cr(dc:D2 P N W QP ops Q hl pu Wf Hd K E h w0):∀(ws:List Way)(order:List (Nat×Bool)),pV P pu ops (iL .any ops) hl ws order (b7 ops.size order order.length)=true ->
  (∀(k:Nat)(x:Nat×Bool),order[k]?=some x->x.2=true->hl.contains x.1=true)->(∀x∈oF ws,x.2=true->hl.contains x.1=true)->hU .any ops (b7 ops.size order order.length) ->
  (∀i∈jZ ws,i∈Region.ready .any ops (b7 ops.size order order.length)) ->
  ∀(s1:St)(a1:Act)(E1:Env)(h1:AH)(w1:World),Step E h W w0 E1 h1 w1->HI ops hl (CC (iL .any ops) hl) order Hd E h w0 order.length h1 w1->AR E1 N s1 a1->nH P N Wf Hd QP ops ws K s1 h1 ->
  ∀i∈jZ ws,order.length<ops.size/\wpOp P ops Q i (fun a' w'=>(∀o,ops[i]?=some o->RR (CC (iL .any ops) hl) (fun l=>ka (Hd l) E h w0) (fun i=>pu.contains i) i o w1 w') /\
   lX P .any ops Q (CC (iL .any ops) hl) (fun l=>ka (Hd l) E h w0) (fun i=>pu.contains i) (ops.size-(order.length+1)) ((b7 ops.size order order.length).setIfInBounds i true) a' w') a1 w1
 |[],_,_,_,_,_,_,_,_,_,_,_,_,_,_,_,i,hi=>by simp[jZ]at hi
 |wy::r,order,cS,wF,yn,wH,PC,s1,a1,E1,eN,w1,qJ,qh,Bc,A8,i,hi=>by
  unfold pV at cS
  rw[yC]at cS
  unfold nH at A8
  have cC:wy.path≠[]:=by
   intro h0
   cases wy with
   |mk p ws=>simp only[Way.path]at h0;subst h0;simp[xk]at cS
  obtain⟨j,hj⟩:∃j,wy.path.head?.map (·.1)=some j:=by
   cases hp:wy.path with
   |nil=>exact absurd hp cC
   |cons x l=>exact⟨x.1,rfl⟩
  simp only[jZ,List.map_cons,List.mem_cons]at hi
  rcases hi with hi |hi
  ·rw[hj]at hi
   simp only[Option.getD_some]at hi
   subst hi
   obtain⟨i',h1,h2⟩:=SN dc wy order cS.1 wF (fun x hx=>yn x (by unfold oF;exact List.mem_append_left _ hx)) wH (fun q hq=>PC q (by rw[hj]at hq;simp only[Option.mem_def,zQ]at hq;subst hq;simp[jZ,hj])) s1 a1 E1 eN w1 qJ qh Bc A8.1
   rw[hj]at h1;cases h1
   exact h2
  ·exact Cr dc r order cS.2 wF (fun x hx=>yn x (by unfold oF;exact List.mem_append_right _ hx)) wH (fun q hq=>PC q (by simp only[jZ,List.map_cons,List.mem_cons];exact .inr hq)) s1 a1 E1 eN w1 qJ qh Bc A8.2 i hi
termination_by ws=>SizeOf.sizeOf ws
theorem GU(dc:D2 P N W QP ops Q hl pu Wf Hd K E h w0):∀(ws:List Way)(order:List (Nat×Bool)),pV P pu ops (iL .any ops) hl ws order (b7 ops.size order order.length)=true ->
  (∀(k:Nat)(x:Nat×Bool),order[k]?=some x->x.2=true->hl.contains x.1=true)->(∀x∈oF ws,x.2=true->hl.contains x.1=true)->hU .any ops (b7 ops.size order order.length) ->
  Region.ready .any ops (b7 ops.size order order.length)=jZ ws->ws≠[] ->
  ∀(s1:St)(a1:Act)(E1:Env)(h1:AH)(w1:World),Step E h W w0 E1 h1 w1->HI ops hl (CC (iL .any ops) hl) order Hd E h w0 order.length h1 w1->AR E1 N s1 a1->nH P N Wf Hd QP ops ws K s1 h1 ->
  lX P .any ops Q (CC (iL .any ops) hl) (fun l=>ka (Hd l) E h w0) (fun i=>pu.contains i) (ops.size-order.length) (b7 ops.size order order.length) a1 w1
 |ws,order,cS,wF,yn,wH,tO,cC,s1,a1,E1,eN,w1,qJ,qh,Bc,A8=>by
  have each:=Cr dc ws order cS wF yn wH (fun i hi=>by rw[tO];exact hi) s1 a1 E1 eN w1 qJ qh Bc A8
  have Uv:jZ ws≠[]:=fun h0=>cC (List.map_eq_nil_iff.1 h0)
  have aM:order.length<ops.size:=by
   cases hh:jZ ws with
   |nil=>exact absurd hh Uv
   |cons j l=>exact(each j (by rw[hh];simp)).1
  have hn:ops.size-order.length=(ops.size-(order.length+1))+1:=by omega
  simp only[hn]
  refine⟨fun h0=>absurd (by rw[<-tO];exact h0) Uv,fun i hi=>?_⟩
  rw[tO]at hi
  exact(each i hi).2
termination_by ws=>SizeOf.sizeOf ws+1
end
end
theorem Ip{C:Nat->Nat->Bool}:uu ops [] C (i_ ops.size)=true:=by
 unfold uu
 rw[List.all_eq_true]
 intro k hk
 have tQ:k<ops.size:=by simpa[i_] using hk
 have:(i_ ops.size)[k]?=some (k,false):=by simp[i_,tQ]
 rw[this]
 simp
theorem Jj(hm:P.follows .mixedOrders=true){pl:dm}{id:Nat}{draw:Bool}(jH:zd P pl id ops draw=true){K:St->AH->Prop}{Q:cG}{s:St}{a:Act}{E:Env}{h:AH}{w:World}(YA:∀s h,K s h->Q .normal s h)
  (hr:Rel E h w) (ha:AR E N s a) (hp:kM P N W QP pl id ops K s h):(Code.region id ops draw).wp P (CQ E h W w N Q QP) a w:=by
 have plain:∀(Wf:Nat->Nat->Prop)(Hd:Nat->Nat->Prop),draw=false->(∀i id,Wf i id->W id)->∀gs,gs.all (nC ops)=true->gs.flatMap (·.2)=i_ ops.size->kW P N Wf Hd QP ops gs K s h->(Code.region id ops draw).wp P (CQ E h W w N Q QP) a w:=by
  intro Wf Hd hdr KO gs hg j_ oY
  subst hdr
  have cx:H4 P N ops [] (fun _ _=>false) (fun _=>false) (i_ ops.size) W Wf Hd QP (CQ E h W w N Q QP) E h w:=⟨hr,fun _ _ h=>by simp at h,fun _ _ _ h=>by simp at h,KO,fun _ _ h=>by simp at h,fun _ _ h=>by simp at h,fun k x hk hx=>by
   have tQ:k<ops.size:=by have:=(zM.1 hk).1;simpa[i_] using this
   simp[i_,tQ]at hk
   subst hk
   simp at hx,Ip,fun v E' h' w' u a ds h1 h2 h3 h4=>.inr ⟨v,u,E',h',ds,rfl,h1,h2,h3,h4⟩⟩
  have:=Bq cx (Ly (i_ ops.size)) (fun s' a' E' h' w' h1 _ h2 h3=>by
   simp only[List.drop_length,List.map_nil,wpOps]
   exact .inl ⟨.normal,E',h',s',trivial,h1,h2,YA _ _ h3⟩) _ 0 s a E h w (zU _) (fun m=>by rw[j_];simp) (by rw[j_];simp) hg (Step.refl hr) HI.start ha oY
  refine wp_region ?_
  simpa[i_,Function.comp_def] using this
 unfold kM at hp
 unfold zd at jH
 split at hp
 ·rename_i h0
  rw[h0]at jH
  simp only[yC,Bool.not_eq_true']at jH
  exact plain (fun _=>W) me jH.1 (fun _ _ h=>h) [(none,i_ ops.size)] (by simpa using jH.2) (by simp) (by simpa[kW] using hp)
 rename_i p h0
 rw[h0]at jH
 simp only at jH
 have main:∀(Wf:Nat->Nat->Prop)(Hd:Nat->Nat->Prop),(∀i id,(iS p).contains i=true->Hd i id->h.obj id≠none)->(∀j i id,CC (iL .any ops) (iS p) j i=true->Hd i id->¬Wf j id)->(∀i id,Wf i id->W id)->(∀j id,p.pure.contains j=true->¬Wf j id)->sW P N Wf Hd QP ops p K s h->(Code.region id ops draw).wp P (CQ E h W w N Q QP) a w:=by
  intro Wf Hd hHd hW KO hpw he
  obtain⟨hg,Uh,WB⟩:=GD jH
  cases draw with
  |false=>
   obtain⟨j_,mj⟩:=Uh rfl
   exact plain Wf Hd rfl KO p.gq hg j_ (by unfold sW at he;rw[mj]at he;exact he)
  |true=>
   obtain⟨⟨cS,hpo⟩,ww,tO,hlen,halt⟩:=WB rfl
   have wF:∀(k:Nat)(x:Nat×Bool),(p.gq.flatMap (·.2))[k]?=some x->x.2=true->(iS p).contains x.1=true:=fun k x hk hx=>A9 (.inl (zP hk)) hx
   have hhI:∀x∈oF p.alts,x.2=true->(iS p).contains x.1=true:=fun x hx h2=>A9 (.inr hx) h2
   have rV:∀j i,CC (iL .any ops) (iS p) j i=true->(iS p).contains i=true:=fun j i hc=>by unfold CC at hc;simp only[yC]at hc;exact hc.1
   generalize iS p=hl at *
   generalize j_:p.gq.flatMap (·.2)=order at *
   have wx:Rel E h { w with drawn:=w.drawn+1 }:=hr.of_heap rfl
   have eM:Step E h W w E h { w with drawn:=w.drawn+1 }:=Step.drew hr rfl rfl rfl rfl
   have dc:D2 P N W QP ops (CQ E h W w N Q QP) hl p.pure Wf Hd K E h { w with drawn:=w.drawn+1 }:={
    rel:=wx
    wf:=KO
    Xw:=ww
    put:=by
     intro dst v c a' w' hh
     rcases hh with⟨x,E',h',s',a1,_⟩ |⟨v',u,E',h',ds,a1,a2,a3,a4,a5⟩
     ·cases x<;>exact a1.elim
     ·refine .inr ⟨v',u,E',h',ds,a1,a2,a3,?_,a5⟩
      cases dst<;>exact a4
    heap:=by
     intro l w1 w2 h1 h2 id B a1 a2 a3
     rw[h2];exact h1 id B a1 a2 a3
    cx:=fun ord hho uD=>⟨wx,hHd,hW,KO,hpw,rV,hho,uD,fun v E' h' w' u a ds h1 h2 h3 h4=>.inr ⟨v,u,E',h',ds,rfl,eM.trans hr h1 (fun _ _ hm=>.inl hm),h2,h3,h4⟩⟩
    last:=fun s' a' E' h' w' h1 h2 h3=>.inl ⟨.normal,E',h',s',trivial,eM.trans hr h1 (fun _ _ hm=>.inl hm),h2,YA _ _ h3⟩ }
   have cx:=dc.cx order wF hpo
   have SV:∀k x,0<=k->order[k]?=some x->ng P p.pure ops (iL .any ops) (b7 ops.size order k) x=true:=fun k x _ hk=>uj order _ cS k x hk
   have atEnd:b7 ops.size order order.length=gJ order (Array.replicate ops.size false):=by simp[b7]
   refine wp_region_any hm (Al (C:=CC (iL .any ops) hl) (S:=fun l=>ka (Hd l) E h { w with drawn:=w.drawn+1 }) (pu:=fun i=>p.pure.contains i) _ _ _ _ ?_)
   have start:lX P .any ops (CQ E h W w N Q QP) (CC (iL .any ops) hl) (fun l=>ka (Hd l) E h { w with drawn:=w.drawn+1 }) (fun i=>p.pure.contains i) (ops.size-0) (b7 ops.size order 0) a { w with drawn:=w.drawn+1 }:=by
    by_cases cC:p.alts=[]
    ·have oY:kW P N Wf Hd QP ops p.gq K s h:=by unfold sW at he;rw[cC]at he;exact he
     have hl:=hlen cC
     refine Bq cx (zp (pu:=p.pure) dc.heap (fun dst v c a w hh=>dc.put dst v c a w hh) ww wF SV (tv order) (by omega)) (fun s' a' E' h' w' h1 _ h2 h3=>?_) _ 0 s a E h _ (zU _) (fun m=>by rw[j_];simp) (by rw[j_];simp) hg (Step.refl wx) HI.start ha oY
     have h0:ops.size-order.length=0:=by omega
     simp only[h0,lX]
     exact⟨by rw[atEnd,tO,cC];rfl,dc.last s' a' E' h' w' h1 h2 h3⟩
    ·have Fb:=halt cC
     have oY:kW P N Wf Hd QP ops p.gq (nH P N Wf Hd QP ops p.alts K) s h:=by
      unfold sW at he
      split at he
      ·rename_i h0;exact absurd h0 cC
      ·exact he
     have hle:order.length<=ops.size:=by
      cases Ui:p.alts with
      |nil=>exact absurd Ui cC
      |cons wy ws=>
       rw[Ui]at Fb
       unfold pV at Fb
       rw[yC]at Fb
       have h2:=Fb.1
       cases wy with
       |mk path nx=>
        unfold xk at h2
        simp only[yC,Nat.ble_eq]at h2
        omega
     refine Bq cx (zp (pu:=p.pure) dc.heap (fun dst v c a w hh=>dc.put dst v c a w hh) ww wF SV (tv order) hle) (fun s1 a1 E1 eN w1 qJ qh Bc lJ=>?_) _ 0 s a E h _ (zU _) (fun m=>by rw[j_];simp) (by rw[j_];simp) hg (Step.refl wx) HI.start ha oY
     have wH:hU .any ops (b7 ops.size order order.length):=by
      have:=nw (P:=P) (pu:=p.pure) (ops:=ops) (B:=iL .any ops) (order:=order) (k1:=0) SV (tv order) order.length
      simpa using this
     exact GU dc p.alts order (by rw[atEnd];exact Fb) wF hhI wH (by rw[atEnd];exact tO) cC s1 a1 E1 eN w1 qJ qh Bc lJ
   simpa[b7,gJ] using start
 have XB:∀(Wg:Nat->Nat->Prop)(j id:Nat),p.pure.contains j=true->¬CB p.pure Wg j id:=by
  intro Wg j id hj
  unfold CB
  rw[hj]
  exact fun h=>h
 have S_:∀(Wg:Nat->Nat->Prop)(j id:Nat),CB p.pure Wg j id->Wg j id:=by
  intro Wg j id hj
  unfold CB at hj
  cases hc:p.pure.contains j with
  |true=>rw[hc]at hj;exact hj.elim
  |false=>rw[hc]at hj;exact hj
 cases Yo:p.held
 ·rw[Yo]at hp
  exact main _ me (fun _ _ _ h=>h.elim) (fun _ _ _ _ h=>h.elim) (fun j id h=>S_ _ j id h) (fun j id h=>XB _ j id h) hp
 ·rw[Yo]at hp
  obtain⟨Hd,h1,h2⟩:=hp
  refine main _ _ (fun i id hc he=>?_) (fun j i id hc he hm=>?_) ?_ (fun j id h=>XB _ j id h) h2
  ·subst he;exact h1 i (by simpa using hc)
  ·have hm:=S_ _ j id hm
   unfold CC at hc
   simp only[yC]at hc
   exact(HL hm).2 i (List.mem_filter.2 ⟨by simpa using hc.1,hc.2⟩) he
  ·intro i id hm
   exact(HL (S_ _ i id hm)).1
end
section
variable {P:Program} {N:Nat} {W:Nat->Prop}
theorem CQ.mono{E0:Env}{h0:AH}{w0:World}{Q Q':cG}{QP fN:cm}(hq:∀x s h,Q x s h->Q' x s h)(eV:∀ds v h,QP ds v h->fN ds v h){e:Exit}{a:Act}{w:World}
  (h:CQ E0 h0 W w0 N Q QP e a w):CQ E0 h0 W w0 N Q' fN e a w:=by
 rcases h with⟨x,E,h,s,a1,a2,a3,a4⟩ |⟨v,u,E,h,ds,a1,a2,a3,a4,a5⟩
 ·exact .inl ⟨x,E,h,s,a1,a2,a3,hq _ _ _ a4⟩
 ·exact .inr ⟨v,u,E,h,ds,a1,a2,a3,a4,eV _ _ _ a5⟩
theorem pN(hm:P.follows .mixedOrders=true){pl:dm}:∀(c:Code)(Q:cG)(QP:cm)(s:St)(h:AH),kA P pl c=true->aw P N W pl c Q QP s h->∀(E:Env)(w:World)(a:Act),Rel E h w->AR E N s a->c.wp P (CQ E h W w N Q QP) a w
 |.skip,Q,QP,s,h,cS,hp,E,w,a,hr,ha=>wp_skip (.inl ⟨.normal,E,h,s,trivial,Step.refl hr,ha,hp⟩)
 |.label _,Q,QP,s,h,cS,hp,E,w,a,hr,ha=>wp_label (.inl ⟨.normal,E,h,s,trivial,Step.refl hr,ha,hp⟩)
 |.exit id,Q,QP,s,h,cS,hp,E,w,a,hr,ha=>wp_exit (.inl ⟨.exit id,E,h,s,rfl,Step.refl hr,ha,hp⟩)
 |.goto l,Q,QP,s,h,cS,hp,E,w,a,hr,ha=>wp_goto (.inl ⟨.goto l,E,h,s,rfl,Step.refl hr,ha,hp⟩)
 |.ret,Q,QP,s,h,cS,hp,E,w,a,hr,ha=>wp_ret (.inl ⟨.ret,E,h,s,trivial,Step.refl hr,ha,hp⟩)
 |.region id ops draw,Q,QP,s,h,cS,hp,E,w,a,hr,ha=>Jj hm cS (fun _ _ h=>h) hr ha hp
 |.rangeFunc ..,_,_,_,_,cS,hp,_,_,_,_,_=>hp.elim
 |.refuse _,_,_,_,_,cS,hp,_,_,_,_,_=>hp.elim
 |.cond c x y,Q,QP,s,h,cS,hp,E,w,a,hr,ha=>by
  simp only[kA,yC]at cS
  simp only[aw,aE]at hp
  have hc:=ha.eval c
  split at hp
  ·rename_i t ht
   rw[ht]at hc
   generalize hv:a.eval c=v at hc
   cases hc
   cases t
   ·exact wp_cond_false hv (pN hm y Q QP s h cS.2 (hp.2 rfl) E w a hr ha)
   ·exact wp_cond_true hv (pN hm x Q QP s h cS.1 (hp.1 rfl) E w a hr ha)
  ·exact hp.elim
 |.seq x y,Q,QP,s,h,cS,hp,E,w,a,hr,ha=>by
  simp only[kA,yC]at cS
  simp only[aw]at hp
  refine wp_seq (wp_mono (pN hm x _ QP s h cS.1 hp E w a hr ha) ?_)
  intro e a' w' hq
  rcases hq with⟨x',E',h',s',a1,a2,a3,a4⟩ |⟨v,u,E',h',ds,rfl,a2,a3,a4,a5⟩
  ·cases x'<;>cases e<;>first |exact a1.elim |skip
   ·exact wp_mono (pN hm y Q QP s' h' cS.2 a4 E' w' a' a2.rel a3) fun e a w h=>h.trans hr a2
   ·exact .inl ⟨_,E',h',s',a1,a2,a3,a4⟩
   ·exact .inl ⟨_,E',h',s',a1,a2,a3,a4⟩
   ·exact .inl ⟨_,E',h',s',a1,a2,a3,a4⟩
  ·exact .inr ⟨v,u,E',h',ds,rfl,a2,a3,a4,a5⟩
 |.block id c,Q,QP,s,h,cS,hp,E,w,a,hr,ha=>by
  simp only[aw]at hp
  refine wp_block (wp_mono (pN hm c _ QP s h cS hp E w a hr ha) ?_)
  intro e a' w' hq
  rcases hq with⟨x',E',h',s',a1,a2,a3,a4⟩ |⟨v,u,E',h',ds,rfl,a2,a3,a4,a5⟩
  ·cases x'<;>cases e<;>first |exact a1.elim |skip
   ·exact .inl ⟨.normal,E',h',s',trivial,a2,a3,a4⟩
   ·cases a1
    simp only[eG]at a4
    simp only[Exit.inBlock]
    split
    ·rename_i he;rw[zX he]at a4;exact .inl ⟨.normal,E',h',s',trivial,a2,a3,a4⟩
    ·rename_i he;rw[zW he]at a4;exact .inl ⟨.exit _,E',h',s',rfl,a2,a3,a4⟩
   ·exact .inl ⟨_,E',h',s',a1,a2,a3,a4⟩
   ·exact .inl ⟨_,E',h',s',a1,a2,a3,a4⟩
  ·exact .inr ⟨v,u,E',h',ds,rfl,a2,a3,a4,a5⟩
 |.scope c,Q,QP,s,h,cS,hp,E,w,a,hr,ha=>by
  simp only[aw]at hp
  refine wp_scope_straight (wp_mono (pN hm c _ QP s h cS hp E w a hr ha) ?_)
  intro e a' w' hq
  rcases hq with⟨x',E',h',s',a1,a2,a3,a4⟩ |⟨v,u,E',h',ds,rfl,a2,a3,a4,a5⟩
  ·cases x'<;>cases e<;>first |exact a1.elim |skip
   ·exact .inl ⟨.normal,E',h',s',trivial,a2,a3,a4⟩
   ·exact .inl ⟨_,E',h',s',a1,a2,a3,a4⟩
   ·exact a4.elim
   ·exact .inl ⟨_,E',h',s',a1,a2,a3,a4⟩
  ·exact .inr ⟨v,u,E',h',ds,rfl,a2,a3,a4,a5⟩
 |.loop c,Q,QP,s,h,cS,hp,E,w,a,hr,ha=>by
  obtain⟨n,hp⟩:=hp
  refine wp_loop_rounds n ?_
  have key:∀(n:Nat)(s':St)(h':AH)(E':Env)(w':World)(a':Act),pP (aw P N W pl c) n Q QP s' h'->Step E h W w E' h' w'->AR E' N s' a'->Code.rounds P c (CQ E h W w N Q QP) n a' w':=by
   intro n
   induction n with
   |zero=>intro s' h' E' w' a' hp _ _;exact hp.elim
   |succ n ih=>
    intro s' h' E' w' a' hp hs ha
    rw[rounds_succ]
    refine wp_mono (pN hm c _ QP s' h' cS hp E' w' a' hs.rel ha) ?_
    intro e a'' D5 hq
    rcases hq with⟨x',E2,h2,s2,a1,a2,a3,a4⟩ |⟨v,u,E2,h2,ds,rfl,a2,a3,a4,a5⟩
    ·have Qs:=hs.trans hr a2 (fun _ _ hm=>.inl hm)
     cases x'<;>cases e<;>first |exact a1.elim |skip
     ·exact ih s2 h2 E2 D5 a'' a4 Qs a3
     ·exact .inl ⟨_,E2,h2,s2,a1,Qs,a3,a4⟩
     ·exact .inl ⟨_,E2,h2,s2,a1,Qs,a3,a4⟩
     ·exact .inl ⟨_,E2,h2,s2,a1,Qs,a3,a4⟩
    ·exact .inr ⟨v,u,E2,h2,ds,rfl,hs.trans hr a2 (fun _ _ hm=>.inl hm),a3,a4,a5⟩
  exact key n s h E w a hp (Step.refl hr) ha
def lF(P:Program):List ResultVar->St->AH->(List AV->Prop)->Prop
 |[],_,_,K=>K []
 |.tmp t::r,s,h,K=>lF P r s h fun l=>K (s.tm t::l)
 |.cell a t::r,s,h,K=>ai (kx P t) (eW P t) (s.tm a) h fun v _=>lF P r s h fun l=>K (v::l)
def gN:List AV->AV
 |[v]=>v
 |l=>.cM l
def cQ(P:Program)(rs:List ResultVar)(R:AE->AH->Prop):cG
 |.normal,s,h=>s.ds=[]/\lF P rs s h fun vs=>R (.ret (gN vs)) h
 |.ret,s,h=>s.ds=[]/\lF P rs s h fun vs=>R (.ret (gN vs)) h
 |_,_,_=>False
def bF(R:AE->AH->Prop):cm:=fun ds v h=>ds=[]/\R (.bV v) h
def vP(tmps:Array Value):ResultVar->Sem Value
 |.tmp t=>pure (tmps.getD t undef)
 |.cell a t=>do loadVar t (<-asAddr (tmps.getD a undef))
theorem Cn{E:Env}{s:St}{a:Act}{h:AH}{w:World}(hr:Rel E h w)(ha:AR E N s a):∀(rs:List ResultVar)(K:List AV->Prop),lF P rs s h K ->
  ∃vs us,cO E vs us/\K vs/\(rs.mapM (vP a.tmps)).run P w=.ok us w
 |[],K,hp=>⟨[],[],.nil,hp,by simp⟩
 |.tmp t::rs,K,hp=>by
  obtain⟨vs,us,h1,h2,h3⟩:=Cn hr ha rs _ hp
  exact⟨s.tm t::vs,a.tmps.getD t undef::us,.cons (ha.tm t) h1,h2,by simp[vP,h3]⟩
 |.cell a' t::rs,K,hp=>by
  simp only[lF]at hp
  obtain⟨v,u,id,B,h1,h2,h3,h4⟩:=KE (P:=P) hr (ha.tm a') hp
  obtain⟨vs,us,h5,h6,h7⟩:=Cn hr ha rs _ h2
  refine⟨v::vs,u::us,.cons h1 h5,h6,?_⟩
  have h8:=h4 w rfl
  have h9:(vP a.tmps (.cell a' t)).run P w=.ok u w:=by
   show(do loadVar t (<-asAddr (a.tmps.getD a' undef)):Sem Value).run P w=.ok u w
   have hx:=ha.tm a'
   unfold Instr.loadAt at h8
   simp only[Sem.run_bind]at h8 ⊢
   have ZV:∃i o,s.tm a'=.ptr i o:=by
    unfold ai at hp
    split at hp
    ·rename_i he;exact⟨_,_,he⟩
    ·rename_i he;exact⟨_,_,he⟩
    ·exact hp.elim
   obtain⟨i,o,he⟩:=ZV
   rw[he]at hx
   generalize a.tmps.getD a' undef=q at hx h8
   cases hx
   simpa[asAddr,Instr.sureAddr] using h8
  rw[List.mapM_cons,Sem.run_bind,h9]
  simp[h7]
theorem Ay {E : Env} {s : St} {a : Act} {h : AH} {w : World} (hr : Rel E h w) (ha : AR E N s a) (fn : Func) (K : AV → Prop) (hp : lF P fn.results.toList s h fun vs => K (gN vs)) :
    ∃ v u, VR E v u ∧ K v ∧ (results fn a.tmps).run P w = .ok u w := by
  obtain ⟨vs, us, h1, h2, h3⟩ := Cn hr ha _ _ hp
  refine ⟨gN vs, if h : us.toArray.size = 1 then us.toArray[0] else .tuple us.toArray, ?_, h2, ?_⟩
  · cases h1 with
    | nil => simpa [gN] using VR.cM cO.nil
    | cons a1 a2 =>
      cases a2 with
      | nil => simpa [gN] using a1
      | cons b1 b2 => simpa [gN] using VR.cM (.cons a1 (.cons b1 b2))
  · have he : results fn a.tmps = (do
        let vs ← fn.results.mapM (vP a.tmps)
        pure (if h : vs.size = 1 then vs[0] else .tuple vs)) := by
      unfold results vP; rfl
    rw [he, Sem.run_bind, Array.mapM_eq_mapM_toList, Sem.run_map, h3]
    simp
def s0(args:List AV):St:={ tm:=fun i=>args.getD i ab,ds:=[] }
theorem Ij{E:Env}{args:List AV}{dY:List Value}(ha:cO E args dY){n:Nat}(hn:args.length<=n) :
  AR E n (s0 args) { tmps:=dY.toArray++Array.replicate (n-dY.toArray.size) undef,defers:=[] }:=by
 have hl:=ha.length
 refine⟨by simp;omega,fun i=>?_,.nil⟩
 simp only[s0]
 rw[List.getD_eq_getElem?_getD,Array.getD_eq_getD_getElem?]
 by_cases hi:i<args.length
 ·obtain⟨u,hu,hv⟩:=ha.get (i:=i) (a:=args[i]) (zJ hi)
  rw[zJ hi,Array.getElem?_append_left (by simp;omega)]
  simp[hu,hv]
 ·rw[List.getElem?_eq_none (by omega),Array.getElem?_append_right (by simp;omega)]
  have:((Array.replicate (n-dY.toArray.size) undef)[i-dY.toArray.size]?).getD undef=undef:=by
   rw[Array.getElem?_replicate];split<;>rfl
  rw[this]
  exact .sc _
theorem xe{f:FuncId}{fn:Func}{c:Code}{args:List AV}{h:AH}{M:Nat->Prop}{R:AE->AH->Prop}(hm:P.follows .mixedOrders=true)(hf:P.funcs[f]?=some fn)(hb:fn.body=some c)(hn:args.length<=fn.ntmps){pl:dm}(cS:kA P pl c=true)
  (hp:aw P fn.ntmps (fun id=>M id\/h.next<=id) pl c (cQ P fn.results.toList R) (bF R) (s0 args) h):ay P f args h M R:=by
 intro E w dY hr ha
 refine calls_of_wp hf hb (wp_mono (pN hm c _ _ _ h cS hp E w _ hr (Ij ha hn)) ?_)
 have back:∀E' h' w',Step E h (fun id=>M id\/h.next<=id) w E' h' w'->Step E h M w E' h' w':=fun E' h' w' hs=>(Step.refl hr).trans hr hs (fun id aM hm=>by
  rcases hm with hm |hm
  ·exact .inl hm
  ·exact .inr hm)
 intro e a' w' hq
 rcases hq with⟨x,E',h',s',a1,a2,a3,a4⟩ |⟨v,u,E',h',ds,rfl,a2,a3,a4,a5⟩
 ·have fin:s'.ds=[]->(lF P fn.results.toList s' h' fun vs=>R (.ret (gN vs)) h')->a'.defers=[]/\∃v,(results fn a'.tmps).run P w'=.ok v w'/\∃Zf Dj ae,Step E h M w Zf Dj w'/\ER Zf ae (.returned v)/\R ae Dj:=by
   intro oZ rR
   obtain⟨v,u,b1,b2,b3⟩:=Ay a2.rel a3 fn (fun v=>R (.ret v) h') rR
   refine⟨?_,u,b3,E',h',.ret v,back _ _ _ a2,b1,b2⟩
   have:=a3.ds
   rw[oZ]at this
   generalize a'.defers=l at this
   cases this;rfl
  cases x<;>cases e<;>first |exact a1.elim |exact a4.elim |exact fin a4.1 a4.2
 ·refine⟨?_,E',h',.bV v,back _ _ _ a2,⟨u,rfl,a3⟩,a5.2⟩
  have:=a4
  rw[a5.1]at this
  generalize a'.defers=l at this
  cases this;rfl
end
section
variable {P:Program} {N:Nat} {W:Nat->Prop} {pl:dm}
theorem Ji{Hd:Nat->Prop}{QP fN:cm}(hq:∀ds v h,QP ds v h->fN ds v h){held:Bool}{o:Oper}{K K':St->AH->Prop}(hk:∀s h,K s h->K' s h){s:St}{h:AH}(hp:rh P N W Hd QP held o K s h) :
  rh P N W Hd fN held o K' s h:=by
 unfold rh at *
 split at hp
 ·refine qOp_mono (fun v d _ hh=>?_) hp
  unfold cS at *
  split at hh
  ·exact hk _ _ hh
  ·exact⟨hh.1,hk _ _ hh.2⟩
 ·exact NH (fun v d h'=>hk _ _) (fun v h'=>hq _ _ _) hp
theorem po{Wf:Nat->Nat->Prop}{Hd:Nat->Nat->Prop}{QP fN:cm}(hq:∀ds v h,QP ds v h->fN ds v h){ops:Array Oper}:∀(is:List (Nat×Bool)){K K':St->AH->Prop},(∀s h,K s h->K' s h)->∀{s:St}{h:AH},nu P N Wf Hd QP ops is K s h->nu P N Wf Hd fN ops is K' s h
 |[],_,_,hk,_,_,hp=>hk _ _ hp
 |x::is,K,K',hk,s,h,hp=>by
  simp only[nu]at hp ⊢
  split at hp
  ·exact Ji hq (fun s h=>po hq is hk) hp
  ·exact hp.elim
theorem F_{x:AV}{a b a' b':Prop}(ha:a->a')(hb:b->b')(hp:aE x a b):aE x a' b':=by
 unfold aE at *
 split at hp
 ·exact⟨fun h=>ha (hp.1 h),fun h=>hb (hp.2 h)⟩
 ·exact hp.elim
theorem F9{want:Bool}{x:AV}{a b a' b':Prop}(ha:a->a')(hb:b->b')(hp:bd want x a b):bd want x a' b':=by
 unfold bd at *
 split at hp
 ·exact⟨fun h=>ha (hp.1 h),fun h=>hb (hp.2 h)⟩
 ·exact hb hp
 ·exact hp.elim
theorem rZ{Wf:Nat->Nat->Prop}{Hd:Nat->Nat->Prop}{QP fN:cm}(hq:∀ds v h,QP ds v h->fN ds v h){ops:Array Oper}:∀(gs:List (Option (Nat×Bool)×List (Nat×Bool))){K K':St->AH->Prop},(∀s h,K s h->K' s h)->∀{s:St}{h:AH},kW P N Wf Hd QP ops gs K s h->kW P N Wf Hd fN ops gs K' s h
 |[],_,_,hk,_,_,hp=>hk _ _ hp
 |(none,is)::gs,K,K',hk,s,h,hp=>by
  simp only[kW]at hp ⊢
  exact po hq is (fun s h=>rZ hq gs hk) hp
 |(some (j,want),is)::gs,K,K',hk,s,h,hp=>by
  simp only[kW]at hp ⊢
  split at hp
  ·exact F9 (po hq is (fun s h=>rZ hq gs hk)) (rZ hq gs hk) hp
  ·exact hp.elim
mutual
theorem NB{Wf:Nat->Nat->Prop}{Hd:Nat->Nat->Prop}{QP fN:cm}(hq:∀ds v h,QP ds v h->fN ds v h){ops:Array Oper}{K K':St->AH->Prop}(hk:∀s h,K s h->K' s h):∀(w:Way){s:St}{h:AH},wS P N Wf Hd QP ops w K s h->wS P N Wf Hd fN ops w K' s h
 |.mk path [],s,h,hp=>by
  unfold wS at hp ⊢
  exact po hq path hk hp
 |.mk path (w::ws),s,h,hp=>by
  unfold wS at hp ⊢
  exact po hq path (fun s h=>wR hq hk (w::ws)) hp
termination_by w=>SizeOf.sizeOf w
theorem wR{Wf:Nat->Nat->Prop}{Hd:Nat->Nat->Prop}{QP fN:cm}(hq:∀ds v h,QP ds v h->fN ds v h){ops:Array Oper}{K K':St->AH->Prop}(hk:∀s h,K s h->K' s h):∀(ws:List Way){s:St}{h:AH},nH P N Wf Hd QP ops ws K s h->nH P N Wf Hd fN ops ws K' s h
 |[],s,h,hp=>by unfold nH;trivial
 |w::r,s,h,hp=>by
  unfold nH at hp ⊢
  exact⟨NB hq hk w hp.1,wR hq hk r hp.2⟩
termination_by ws=>SizeOf.sizeOf ws
end
theorem FB{Wf:Nat->Nat->Prop}{Hd:Nat->Nat->Prop}{QP fN:cm}(hq:∀ds v h,QP ds v h->fN ds v h){ops:Array Oper}{K K':St->AH->Prop}(hk:∀s h,K s h->K' s h){s:St}{h:AH}{p:tC}(hp:sW P N Wf Hd QP ops p K s h):sW P N Wf Hd fN ops p K' s h:=by
 unfold sW at *
 split at hp
 ·exact rZ hq _ hk hp
 ·exact rZ hq _ (fun s h=>wR hq hk _) hp
theorem F4{QP fN:cm}(hq:∀ds v h,QP ds v h->fN ds v h){ops:Array Oper}{id:Nat}{K K':St->AH->Prop}(hk:∀s h,K s h->K' s h){s:St}{h:AH}(hp:kM P N W QP pl id ops K s h) :
  kM P N W fN pl id ops K' s h:=by
 unfold kM at *
 split at hp
 ·exact po hq _ hk hp
 ·split at hp
  ·exact FB hq hk hp
  ·obtain⟨Hd,h1,h2⟩:=hp;exact⟨Hd,h1,FB hq hk h2⟩
theorem uf{K K':St->AH->Prop}{Q Q':cG}(hk:∀s h,K s h->K' s h)(hq:∀x s h,Q x s h->Q' x s h):∀x s h,b_ K Q x s h->b_ K' Q' x s h:=by
 intro x s h hp
 cases x
 ·exact hk _ _ hp
 ·exact hq (.exit _) _ _ hp
 ·exact hq (.goto _) _ _ hp
 ·exact hq .ret _ _ hp
theorem mO:∀(c:Code){Q Q':cG}{QP fN:cm},(∀x s h,Q x s h->Q' x s h)->(∀ds v h,QP ds v h->fN ds v h)->∀{s:St}{h:AH},aw P N W pl c Q QP s h->aw P N W pl c Q' fN s h
 |.skip,_,_,_,_,hq,_,_,_,hp=>hq _ _ _ hp
 |.label _,_,_,_,_,hq,_,_,_,hp=>hq _ _ _ hp
 |.exit _,_,_,_,_,hq,_,_,_,hp=>hq _ _ _ hp
 |.goto _,_,_,_,_,hq,_,_,_,hp=>hq _ _ _ hp
 |.ret,_,_,_,_,hq,_,_,_,hp=>hq _ _ _ hp
 |.rangeFunc ..,_,_,_,_,_,_,_,_,hp=>hp.elim
 |.refuse _,_,_,_,_,_,_,_,_,hp=>hp.elim
 |.region _ ops _,_,_,_,_,hq,eV,_,_,hp=>F4 eV (hq .normal) hp
 |.seq a b,_,_,_,_,hq,eV,_,_,hp=>mO a (uf (fun _ _=>mO b hq eV) hq) eV hp
 |.cond c a b,_,_,_,_,hq,eV,_,_,hp=>F_ (mO a hq eV) (mO b hq eV) hp
 |.block id c,Q,Q',_,_,hq,eV,_,_,hp=>by
  refine mO c (Q:=eG id Q) ?_ eV hp
  intro x s h hp
  cases x with
  |exit j=>
   simp only[eG]at hp ⊢
   split at hp
   ·rename_i he;rw[zX he];exact hq _ _ _ hp
   ·rename_i he;rw[zW he];exact hq _ _ _ hp
  |normal=>exact hq .normal _ _ hp
  |goto l=>exact hq (.goto l) _ _ hp
  |ret=>exact hq .ret _ _ hp
 |.scope c,Q,Q',_,_,hq,eV,_,_,hp=>by
  refine mO c (Q:=pi Q) ?_ eV hp
  intro x s h hp
  cases x with
  |exit j=>exact hq (.exit j) _ _ hp
  |normal=>exact hq .normal _ _ hp
  |goto l=>exact hp.elim
  |ret=>exact hq .ret _ _ hp
 |.loop c,Q,Q',QP,fN,hq,eV,s,h,hp=>by
  obtain⟨n,hp⟩:=hp
  refine⟨n,?_⟩
  have key:∀(n:Nat)(s:St)(h:AH),pP (aw P N W pl c) n Q QP s h->pP (aw P N W pl c) n Q' fN s h:=by
   intro n
   induction n with
   |zero=>intro s h hp;exact hp.elim
   |succ n ih=>intro s h hp;exact mO c (uf ih hq) eV hp
  exact key n s h hp
theorem nK{ι:Type}{c:Code}{Q:cG}{QP:cm}(I:ι->St->AH->Prop)(μ:ι->Nat)(i:ι){s:St}{h:AH}(h0:I i s h)
  (step:∀i s h,I i s h->aw P N W pl c (b_ (fun s' h'=>∃i',μ i'<μ i/\I i' s' h') Q) QP s h):lb (aw P N W pl c) Q QP s h:=by
 refine⟨μ i+1,?_⟩
 have key:∀(n:Nat)(i:ι)(s:St)(h:AH),μ i<n->I i s h->pP (aw P N W pl c) n Q QP s h:=by
  intro n
  induction n with
  |zero=>intro i s h aM _;omega
  |succ n ih=>
   intro i s h aM hi
   refine mO c (uf (fun s' h'=>?_) (fun _ _ _ h=>h)) (fun _ _ _ h=>h) (step i s h hi)
   rintro⟨i',h1,h2⟩
   exact ih i' s' h' (by omega) h2
 exact key _ i s h (by omega) h0
def Code.at:Code->List Nat->Code
 |c,[]=>c
 |.seq a _,0::p=>Code.at a p
 |.seq _ b,_::p=>Code.at b p
 |.cond _ a _,0::p=>Code.at a p
 |.cond _ _ b,_::p=>Code.at b p
 |.block _ c,_::p=>Code.at c p
 |.loop c,_::p=>Code.at c p
 |.scope c,_::p=>Code.at c p
 |c,_=>c
abbrev aO(cells:List AV)(sz:Nat)(ty:TypeId):AO:={ cells:=cells,sz:=sz,ty:=ty }
theorem AH.b9(h:AH)(o:AO)(i:Nat):(h.alloc o).obj i=if i=h.next then some o else h.obj i:=rfl
theorem AH.bU(h:AH)(o:AO):(h.alloc o).next=h.next+1:=rfl
theorem AH.rC(h:AH)(id off:Nat)(cs:List AV):(h.put id off cs).next=h.next:=rfl
theorem AH.fU(h:AH)(id:Nat):(h.del id).next=h.next:=rfl
theorem AH.HE(h:AH)(id i:Nat):(h.del id).obj i=if i=id then none else h.obj i:=rfl
theorem AH.pG(h:AH)(id:Nat)(k:Kind)(i:Nat):(h.iY id k).obj i=if i=id then(h.obj i).map (fun o=>{ o with kind:=k }) else h.obj i:=rfl
theorem AH.cK(h:AH)(o:AO):(h.alloc o).obj h.next=some o:=by simp[AH.b9]
theorem AH.alloc_old{h:AH}{o:AO}{i:Nat}(hi:i<h.next):(h.alloc o).obj i=h.obj i:=by rw[AH.b9,zW (by omega)]
theorem AH.ja{h:AH}{id off:Nat}{cs:List AV}{i:Nat}(hi:i≠id):(h.put id off cs).obj i=h.obj i:=by rw[AH.cb,zW hi]
theorem AH.J1{h:AH}{id off:Nat}{cs:List AV}{o:AO}(ho:h.obj id=some o):(h.put id off cs).obj id=some { o with cells:=putCells o.cells off cs }:=by rw[AH.cb,zX rfl,ho];rfl
theorem AH.rr{h:AH}{id i:Nat}(hi:i≠id):(h.del id).obj i=h.obj i:=by rw[AH.HE,zW hi]
theorem Mi(tm:Nat->AV)(d:Nat)(v:AV):eZ tm d v d=v:=by simp[eZ]
theorem lY{tm:Nat->AV}{d:Nat}{v:AV}{i:Nat}(h:i≠d):eZ tm d v i=tm i:=by simp[eZ,h]
end
section
variable {P:Program}
def aj(tm:Nat->AV):List (Nat×AV)->Nat->AV
 |[]=>tm
 |x::r=>aj (eZ tm x.1 x.2) r
def vQ:Code->Array Oper
 |.region _ ops _=>ops
 |_=>#[]
section
variable {N:Nat} {W:Nat->Prop} {pl:dm} {Q:cG} {QP:cm} {s:St} {h:AH}
theorem LL{id:Nat}{ops:Array Oper}{draw:Bool}{gs:List (Option (Nat×Bool)×List (Nat×Bool))}(hp:rE pl id=some ⟨gs,false,[],[]⟩) :
  aw P N W pl (.region id ops draw) Q QP s h=kW P N (fun _=>W) me QP ops gs (Q .normal) s h:=by
 simp only[aw,kM,hp,sW];rfl
theorem FU{id:Nat}{ops:Array Oper}{draw:Bool}{gs:List (Option (Nat×Bool)×List (Nat×Bool))}{pu:List Nat}(hp:rE pl id=some ⟨gs,false,[],pu⟩) :
  aw P N W pl (.region id ops draw) Q QP s h=kW P N (CB pu fun _=>W) me QP ops gs (Q .normal) s h:=by
 simp only[aw,kM,hp,sW]
variable {ops:Array Oper} {K:St->AH->Prop} {is:List (Nat×Bool)} {gs:List (Option (Nat×Bool)×List (Nat×Bool))}
end
def Pj(o:Option AO)(off:Nat)(K:AV->Prop):Prop:=
 match o with
 |some o=>(match o.kind with |.row=>True |_=>False)/\(match o.cells[off]? with |some c=>K c |none=>False)
 |none=>False
theorem aF{n:Option Nat}{id off:Nat}{h:AH}{K:AV->Nat->Prop}:ai (some false) n (.ptr id off) h K=Pj (h.obj id) off (fun v=>K v id):=by
 simp only[ai,Pj]
 apply propext
 constructor
 ·rintro⟨o,c,⟨h1,h2,h3⟩,h4⟩
  rw[h1];simp only[h2,h3];exact⟨trivial,h4⟩
 ·intro hh
  cases ho:h.obj id with
  |none=>rw[ho]at hh;exact hh.elim
  |some o=>
   rw[ho]at hh
   obtain⟨h1,h2⟩:=hh
   cases hk:o.kind with
   |row=>
    cases hc:o.cells[off]? with
    |none=>rw[hc]at h2;exact h2.elim
    |some c=>rw[hc]at h2;exact⟨o,c,⟨rfl,hk,hc⟩,h2⟩
   |iter s p=>rw[hk]at h1;exact h1.elim
   |map l=>rw[hk]at h1;exact h1.elim
   |Fv b ob=>rw[hk]at h1;exact h1.elim
def xQ(c:Option AV)(K:AV->Prop):Prop:=match c with |some c=>K c |none=>False
theorem ah{c:AV}{K:AV->Prop}:xQ (some c) K=K c:=rfl
theorem I_{K:AV->Prop}:xQ none K=False:=rfl
theorem aB{cells:List AV}{sz:Nat}{ty:TypeId}{ro:Bool}{off:Nat}{K:AV->Prop}:Pj (some { cells:=cells,sz:=sz,ty:=ty,ro:=ro,kind:=.row }) off K=xQ cells[off]? K:=by
 unfold Pj xQ;simp
def Ix(o:Option AO)(off n:Nat)(K:AV->Prop):Prop:=
 match o with
 |some o=>(match o.kind with |.row=>True |_=>False)/\off+n<=o.cells.length/\K (.agg ((o.cells.drop off).take n))
 |none=>False
theorem p5{n:Nat}{id off:Nat}{h:AH}{K:AV->Nat->Prop}:ai (some true) (some n) (.ptr id off) h K=Ix (h.obj id) off n (fun v=>K v id):=by
 simp only[ai,Ix]
 apply propext
 constructor
 ·rintro⟨o,⟨h1,h2,h3⟩,h4⟩
  rw[h1];simp only[h2];exact⟨trivial,h3,h4⟩
 ·intro hh
  cases ho:h.obj id with
  |none=>rw[ho]at hh;exact hh.elim
  |some o=>
   rw[ho]at hh
   obtain⟨h1,h2,h3⟩:=hh
   cases hk:o.kind with
   |row=>exact⟨o,⟨rfl,hk,h2⟩,h3⟩
   |iter s p=>rw[hk]at h1;exact h1.elim
   |map l=>rw[hk]at h1;exact h1.elim
   |Fv b ob=>rw[hk]at h1;exact h1.elim
theorem nS{cells:List AV}{sz:Nat}{ty:TypeId}{ro:Bool}{off n:Nat}{K:AV->Prop}:Ix (some { cells:=cells,sz:=sz,ty:=ty,ro:=ro,kind:=.row }) off n K=(off+n<=cells.length/\K (.agg ((cells.drop off).take n))):=by
 unfold Ix;simp
theorem aT{i o:Nat}{K:AV->Prop}:bt (.ptr i o) K=K (.ptr i o):=rfl
theorem al{d i o:Nat}{K:AV->Prop}:ag (some d) (.ptr i o) K=K (.ptr i (o+d)):=rfl
theorem cD{t:Bool}{a b:AV}{K:AV->Prop}:aJ (.sc (.bool t)) a b K=K (if t then a else b):=rfl
theorem rk{sz id off len:Nat}{k:IntKind}{n:Int}{K:AV->Prop}:bM (some (sz,none)) (.sl id off len) (.sc (.int k n)) K=((0<=n/\n<(len:Int))/\K (.ptr id (off+n.toNat*sz))):=rfl
theorem Ra{sz len id off:Nat}{k:IntKind}{n:Int}{K:AV->Prop}:bM (some (sz,some len)) (.ptr id off) (.sc (.int k n)) K=((0<=n/\n<(len:Int))/\K (.ptr id (off+n.toNat*sz))):=rfl
theorem dx{l:List AV}{k:Nat}{K:AV->Prop}:cl (.cM l) k K=xQ l[k]? K:=by
 simp only[cl,xQ]
 apply propext
 constructor
 ·rintro⟨c,h1,h2⟩;rw[h1];exact h2
 ·intro hh;cases hc:l[k]? with
  |none=>rw[hc]at hh;exact hh.elim
  |some c=>rw[hc]at hh;exact⟨c,rfl,hh⟩
theorem dR{t:Bool}{K:AV->Prop}:e_ .not (.sc (.bool t)) K=K (.sc (.bool !t)):=rfl
theorem Q3{k:IntKind}{n:Int}{K:AV->Prop}:e_ .neg (.sc (.int k n)) K=K (.sc (.int k (k.wrap (0-n)))):=rfl
theorem G6{id off len:Nat}{K:AV->Prop}:bL (.sl id off len) K=K (.sc (.int .i64 len)):=rfl
theorem En{a:Option Addr}{n c:Nat}{K:AV->Prop}:bL (.sc (.slice a n c)) K=K (.sc (.int .i64 n)):=rfl
theorem J9{s:ByteArray}{K:AV->Prop}:bL (.sc (.string s)) K=K (.sc (.int .i64 s.size)):=rfl
theorem D7{s:ByteArray}:aW (.sc (.string s))=true:=rfl
theorem Cw{id off len:Nat}:aW (.sl id off len)=false:=rfl
theorem Aq{a:Option Addr}{n c:Nat}:aW (.sc (.slice a n c))=false:=rfl
theorem Ti{t:TypeId}{x:AV}{K:AV->Prop}:rF (some false) t x K=K (.kC t x):=rfl
theorem AF{k k':IntKind}{n:Int}{K:AV->Prop}:l8 (some k) (.sc (.int k' n)) K=K (.sc (.int k (k.wrap n))):=rfl
theorem Q4{T t:TypeId}{ok:Bool}{v:AV}{K:AV->Prop}:CD (some false) T ok (.kC t v) K=(t=T/\K (if ok then .cM [v,.sc (.bool true)] else v)):=rfl
theorem ao{t:Bool}{a b:Prop}:aE (.sc (.bool t)) a b=((t=true->a)/\(t=false->b)):=rfl
theorem dl{want t:Bool}{a b:Prop}:bd want (.sc (.bool t)) a b=((t=want->a)/\(t=(!want)->b)):=rfl
theorem WZ{want:Bool}{a b:Prop}:bd want ab a b=b:=rfl
theorem Tk{s:ByteArray}{k:IntKind}{n:Int}{K:AV->Prop}:oC true (.sc (.string s)) (.sc (.int k n)) K=∃c:UInt8,(0<=n/\s[n.toNat]?=some c)/\K (.sc (.int .u8 c.toNat)):=rfl
section
variable {t:TypeId} {mv:Bool} {k:IntKind} {a b:Int} {x y:ByteArray} {K:AV->Prop}
theorem aR:aa P .add t mv (.sc (.int k a)) (.sc (.int k b)) K=K (.sc (.int k (k.wrap (a+b)))):=by simp[aa]
theorem eX:aa P .sub t mv (.sc (.int k a)) (.sc (.int k b)) K=K (.sc (.int k (k.wrap (a-b)))):=by simp[aa]
theorem Et:aa P .mul t mv (.sc (.int k a)) (.sc (.int k b)) K=K (.sc (.int k (k.wrap (a*b)))):=by simp[aa]
theorem Es:aa P .quo t mv (.sc (.int k a)) (.sc (.int k b)) K=(b≠0/\K (.sc (.int k (k.wrap (a.tdiv b))))):=by simp[aa]
theorem Ep:aa P .rem t mv (.sc (.int k a)) (.sc (.int k b)) K=(b≠0/\K (.sc (.int k (a.tmod b)))):=by simp[aa]
theorem dD:aa P .eql t mv (.sc (.int k a)) (.sc (.int k b)) K=K (.sc (.bool (a==b))):=by simp[aa]
theorem cZ:aa P .neq t mv (.sc (.int k a)) (.sc (.int k b)) K=K (.sc (.bool (a != b))):=by simp[aa]
theorem ba:aa P .lss t mv (.sc (.int k a)) (.sc (.int k b)) K=K (.sc (.bool (decide (a<b)))):=by simp[aa]
theorem zb:aa P .leq t mv (.sc (.int k a)) (.sc (.int k b)) K=K (.sc (.bool (decide (a<=b)))):=by simp[aa]
theorem dZ:aa P .gtr t mv (.sc (.int k a)) (.sc (.int k b)) K=K (.sc (.bool (decide (a > b)))):=by simp[aa]
theorem nE:aa P .geq t mv (.sc (.int k a)) (.sc (.int k b)) K=K (.sc (.bool (decide (a>=b)))):=by simp[aa]
theorem cU:aa P .eql t mv (.sc (.string x)) (.sc (.string y)) K=K (.sc (.bool (decide (x=y)))):=rfl
theorem Kg:aa P .neq t mv (.sc (.string x)) (.sc (.string y)) K=K (.sc (.bool (!decide (x=y)))):=rfl
theorem sy:aa P .add t mv (.sc (.string x)) (.sc (.string y)) K=(x.size+y.size<9223372036854775808/\K (.sc (.string (x++y)))):=rfl
end
theorem gD{α:Type}{f:α->List AV}{k:Nat}(hf:∀x,(f x).length=k):∀(l:List α)(i j:Nat),j<k->(l.flatMap f)[i*k+j]?=(l[i]?).bind fun x=>(f x)[j]?
 |[],i,j,_=>by simp
 |x::l,0,j,hj=>by simp[List.getElem?_append_left,hf,hj]
 |x::l,i+1,j,hj=>by
  rw[List.flatMap_cons,List.getElem?_append_right (by rw[hf,Nat.add_mul];omega),hf]
  have:(i+1)*k+j-k=i*k+j:=by rw[Nat.add_mul];omega
  rw[this,gD hf l i j hj];simp
theorem jr{α:Type}{f:α->List AV}{k:Nat}(hf:∀x,(f x).length=k)(hk:0<k)(l:List α)(i:Nat):(l.flatMap f)[i*k]?=(l[i]?).bind fun x=>(f x)[0]?:=gD hf l i 0 hk
theorem fR{α:Type}{f:α->List AV}{k:Nat}(hf:∀x,(f x).length=k):∀(l:List α),(l.flatMap f).length=l.length*k
 |[]=>by simp
 |x::l=>by rw[List.flatMap_cons,List.length_append,hf,fR hf l,List.length_cons,Nat.add_mul];omega
theorem sV{α:Type}{f:α->List AV}{k:Nat}(hf:∀x,(f x).length=k):∀(l:List α)(i:Nat)(x:α),l[i]?=some x->((l.flatMap f).drop (i*k)).take k=f x
 |[],i,x,h=>by simp at h
 |y::l,0,x,h=>by
  simp only[zA,zQ]at h;subst h
  simp only[Nat.zero_mul,List.drop_zero,List.flatMap_cons]
  rw[List.take_append,hf,Nat.sub_self,List.take_zero,List.append_nil,List.take_of_length_le (by rw[hf];exact zU _)]
 |y::l,i+1,x,h=>by
  simp only[zB]at h
  rw[List.flatMap_cons,List.drop_append,hf]
  have h1:(i+1)*k-k=i*k:=by rw[Nat.add_mul];omega
  rw[h1,List.drop_eq_nil_of_le (by rw[hf,Nat.add_mul];omega),List.nil_append]
  exact sV hf l i x h
theorem aL{n:Int}(h0:-9223372036854775808<=n)(h1:n<=9223372036854775807):IntKind.i64.wrap n=n:=IntWalk.i64_in _ (by omega)
end
section
variable {P:Program}
abbrev KT:=St->AH->Prop
abbrev Cp:=List (Option (Nat×Bool)×List (Nat×Bool))
section
variable {N:Nat} {W:Nat->Prop} {pl:dm} {Q:cG} {QP:cm} {s:St} {h:AH} {c a b:Code} {T:Prop}
theorem iq(e:c=.seq a b){C:KT}(hb:∀s h,aw P N W pl b Q QP s h=C s h)(ha:aw P N W pl a (b_ C Q) QP s h=T):aw P N W pl c Q QP s h=T:=by
 subst e
 have:aw P N W pl b Q QP=C:=funext fun s=>funext fun h=>hb s h
 subst this;exact ha
theorem rm{o:Operand}{A B:Prop}(e:c=.cond o a b)(hA:aw P N W pl a Q QP s h=A)(hB:aw P N W pl b Q QP s h=B)(ht:aE (lR s o) A B=T):aw P N W pl c Q QP s h=T:=by
 subst e hA hB;exact ht
theorem EB{id:Nat}(e:c=.block id a)(ha:aw P N W pl a (eG id Q) QP s h=T):aw P N W pl c Q QP s h=T:=by subst e;exact ha
theorem Rq(e:c=.loop a):aw P N W pl c Q QP s h=lb (aw P N W pl a) Q QP s h:=by subst e;rfl
variable {ops:Array Oper} {K:KT} {is:List (Nat×Bool)} {gs rest:Cp}
variable {Wf:Nat->Nat->Prop}
end
end
section
attribute [simp] aj eZ s0 aT al cD rk Ra dx dR Q3 G6 En J9 D7 Cw Aq Ti AF Q4 ao dl WZ Tk aR eX Et dD cZ ba zb dZ nE cU Kg sy aF aB p5 nS ah I_ cQ bF lF gN b_ eG pi
end
section
abbrev aV:AV:=.sc (.slice none 0 0)
def bw{α:Type}(f:α->List AV)(sz:Nat)(ty:TypeId)(h:AH)(x:AV)(l:List α):Prop:=
 (x=aV/\l=[])\/∃id,x=.sl id 0 l.length/\h.obj id=some (aO (l.flatMap f) sz ty)
def cz(S:Nat->Prop)(x:AV):Prop:=∀id off n,x=.sl id off n->S id
theorem bw.nil{α:Type}{f:α->List AV}{sz:Nat}{ty:TypeId}{h:AH}:bw f sz ty h aV []:=.inl ⟨rfl,rfl⟩
theorem bw.frame{α:Type}{f:α->List AV}{sz:Nat}{ty:TypeId}{h h':AH}{x:AV}{l:List α}(hl:bw f sz ty h x l)(hf:∀id off n,x=.sl id off n->h'.obj id=h.obj id):bw f sz ty h' x l:=by
 rcases hl with hl |⟨id,hx,ho⟩
 ·exact .inl hl
 ·exact .inr ⟨id,hx,by rw[hf id _ _ hx];exact ho⟩
theorem bw.len{α:Type}{f:α->List AV}{sz:Nat}{ty:TypeId}{h:AH}{x:AV}{l:List α}(hl:bw f sz ty h x l){K:AV->Prop}:(aW x=false)/\bL x K=K (.sc (.int .i64 l.length)):=by
 rcases hl with⟨rfl,rfl⟩ |⟨id,rfl,ho⟩
 ·exact⟨rfl,rfl⟩
 ·exact⟨rfl,rfl⟩
theorem mz{z cs:List AV}(hz:cs.length=z.length):putCells z 0 cs=cs:=by
 have key:∀(cs z p:List AV),cs.length=z.length->putCells (p++z) p.length cs=p++cs:=by
  intro cs
  induction cs with
  |nil=>intro z p h;have:z=[]:=List.length_eq_zero_iff.1 (by simpa using h.symm);subst this;rfl
  |cons c cs ih=>
   intro z p h
   cases z with
   |nil=>simp at h
   |cons a z=>
    simp only[putCells]
    have:=ih z (p++[c]) (by simpa using h)
    simp only[List.append_assoc,List.singleton_append,List.length_append,List.length_singleton]at this
    rw[show(p++a::z).set p.length c=p++c::z from by simp]
    exact this
 simpa using key cs z [] hz
theorem Vy{α:Type}{f:α->List AV}{sz bytes:Nat}{ty:TypeId}{z:List Value}(hf:∀x,(f x).length=sz)(gZ:0<sz)(hz:z.length=sz)(h1:∀x,(f x).all cB=true)(hb:bytes<=1024)
  {h:AH} {x:AV} {l:List α} {t:α} {W:Nat->Prop} {K:AV->AH->Prop} (hl:bw f sz ty h x l) (hw:cz W x) (hn:l.length<=100000000)
  (hK:∀y h',bw f sz ty h' y (l++[t])->cz (h.next<=·) y->(∀i,i<h.next->(∀off n,x≠.sl i off n)->h'.obj i=h.obj i)->h.next<=h'.next->K y h') :
  db (some (sz,ty,z)) 1 [(0,.agg (f t))] h (fun v h4=>dV (some (sz,bytes,ty)) x v h4 W K):=by
 have jM:dS (fun i=>some (i*sz,sz)) (z.map .sc) [(0,.agg (f t))]=some (f t):=by
  simp only[dS,cy,Nat.zero_mul,hf,zZ,hz,zG,zU,and_self,zV]
  rw[mz (by simp[hf,hz])]
 refine⟨f t,⟨jM,h1 t⟩,?_⟩
 have wA:(l.length+1)*bytes<=140737488355328:=by
  have:(l.length+1)*bytes<=100000001*1024:=Nat.mul_le_mul (by omega) hb
  omega
 have jL:((f t).drop 0).take (1*sz)=f t:=by rw[List.drop_zero,List.take_of_length_le (by rw[hf];omega)]
 rcases hl with⟨rfl,rfl⟩ |⟨id,rfl,ho⟩
 ·refine⟨1,f t,.inr ⟨rfl,_,AH.cK _ _,rfl,by simp[hf],jL.symm⟩,?_⟩
  show if 1=0 then _ else _
  rw[zW (by omega)]
  refine⟨⟨by omega,by simpa using wA⟩,?_⟩
  refine hK _ _ (.inr ⟨_,rfl,?_⟩) ?_ ?_ ?_
  ·rw[AH.cK];simp[aO]
  ·intro i off n he;cases he;simp only[AH.bU];omega
  ·intro i hi _;rw[AH.alloc_old (by simp only[AH.bU];omega),AH.alloc_old hi]
  ·simp only[AH.bU];omega
 ·have hid:=h.lt _ _ ho
  refine⟨1,f t,.inr ⟨rfl,_,AH.cK _ _,rfl,by simp[hf],jL.symm⟩,?_⟩
  show if 1=0 then _ else _
  rw[zW (by omega)]
  have hlen:(l.flatMap f).length=l.length*sz:=fR hf l
  refine⟨rfl,_,⟨hw _ _ _ rfl,by rw[AH.alloc_old hid];exact ho,rfl,rfl,rfl,rfl,by simp[aO,hlen],by omega,wA⟩,?_⟩
  refine hK _ _ (.inr ⟨_,by rw[List.length_append,List.length_singleton],?_⟩) ?_ ?_ ?_
  ·rw[AH.b9,zX (by simp[AH.bU,AH.fU])]
   simp only[aO,List.flatMap_append,List.flatMap_cons,List.flatMap_nil,List.append_nil]
   rw[List.take_of_length_le (by rw[hlen];exact zU _)]
  ·intro i off n he;cases he;simp only[AH.bU];omega
  ·intro i hi cC
   have:i≠id:=fun e=>cC 0 l.length (by rw[e])
   rw[AH.alloc_old (by simp only[AH.bU,AH.fU];omega),AH.rr this,AH.alloc_old hi]
  ·simp only[AH.bU,AH.fU];omega
end
section
theorem fF{h:AH}{id off:Nat}{cs cells:List AV}{sz:Nat}{ty:TypeId}(ho:h.obj id=some { cells:=cells,sz:=sz,ty:=ty }):(h.put id off cs).obj id=some { cells:=putCells cells off cs,sz:=sz,ty:=ty }:=by rw[AH.J1 ho]
structure Fr (h h':AH) (S:Nat->Prop):Prop where
 next:h.next<=h'.next
 dA:∀id,id<h.next->¬S id->h'.obj id=h.obj id
theorem Fr.refl{h:AH}{S:Nat->Prop}:Fr h h S:=⟨zU _,fun _ _ _=>rfl⟩
theorem Fr.trans{h h1 h2:AH}{S:Nat->Prop}(a:Fr h h1 S)(b:Fr h1 h2 fun id=>S id\/h.next<=id):Fr h h2 S:=
 ⟨zR a.next b.next,fun id h1 h2=>by rw[b.dA id (Nat.lt_of_lt_of_le h1 a.next) (fun hh=>hh.elim h2 (fun hh=>by omega)),a.dA id h1 h2]⟩
theorem Fr.mono{h h1:AH}{S S':Nat->Prop}(a:Fr h h1 S)(b:∀id,S id->S' id):Fr h h1 S':=⟨a.next,fun id h1 h2=>a.dA id h1 fun h=>h2 (b id h)⟩
theorem Fr.alloc{h h1:AH}{S:Nat->Prop}(a:Fr h h1 S)(o:AO):Fr h (h1.alloc o) S:=⟨Nat.le_succ_of_le a.next,fun id hi hs=>by rw[AH.alloc_old (Nat.lt_of_lt_of_le hi a.next)];exact a.dA id hi hs⟩
theorem Fr.put{h h1:AH}{S:Nat->Prop}(a:Fr h h1 S){id off:Nat}{cs:List AV}(hs:S id\/h.next<=id):Fr h (h1.put id off cs) S:=
 ⟨a.next,fun i hi hn=>by rw[AH.ja (fun e=>by subst e;exact hs.elim hn (fun h=>by omega))];exact a.dA i hi hn⟩
theorem Fr.obj{h h1:AH}{S:Nat->Prop}(a:Fr h h1 S){id:Nat}{o:AO}(ho:h.obj id=some o)(hs:¬S id):h1.obj id=some o:=by rw[a.dA id (h.lt _ _ ho) hs,ho]
theorem aN{z:List Value}{sz:Nat}{t:TypeId}{h:AH}{K:AV->AH->Prop}:bH (some z) sz t h K=((z.all (·.oneCell')=true)/\K (.ptr h.next 0) (h.alloc (aO (z.map .sc) sz t))):=rfl
theorem NX{t:TypeId}{v:AV}{h:AH}{KP:AV->AH->Prop}:tB (.kC t v) h KP=KP (.kC t v) h:=rfl
def O1(o:Option AO)(c:Option (List AV))(n off:Nat)(w:Prop)(K:List AV->Prop):Prop:=
 match o,c with
 |some o,some cs=>((match o.kind with |.row=>True |_=>False)/\o.ro=false/\w/\cs.all cB=true/\cs.length=n/\off+n<=o.cells.length)/\K cs
 |_,_=>False
theorem aD{n id off:Nat}{x:AV}{h:AH}{W:Nat->Prop}{K:AH->Prop}:aG (some n) (.ptr id off) x h W K=O1 (h.obj id) (cy x) n off (W id) (fun cs=>K (h.put id off cs)):=by
 apply propext
 simp only[aG,O1]
 constructor
 ·rintro⟨o,wV,⟨h1,h2,h3,h4,h5,h6,h7,h8⟩,h9⟩
  rw[h2,h5];simp only[h3]
  exact⟨⟨trivial,h4,h1,h6,h7,h8⟩,h9⟩
 ·intro hh
  cases ho:h.obj id with
  |none=>rw[ho]at hh;exact hh.elim
  |some o=>
   cases hc:cy x with
   |none=>rw[ho,hc]at hh;exact hh.elim
   |some cs=>
    rw[ho,hc]at hh
    obtain⟨⟨h3,h4,h1,h6,h7,h8⟩,h9⟩:=hh
    refine⟨o,cs,⟨h1,rfl,?_,h4,rfl,h6,h7,h8⟩,h9⟩
    cases hk:o.kind with
    |row=>rfl
    |iter s p=>rw[hk]at h3;exact h3.elim
    |map l=>rw[hk]at h3;exact h3.elim
    |Fv b ob=>rw[hk]at h3;exact h3.elim
theorem cH{cells cs:List AV}{sz n off:Nat}{ty:TypeId}{w:Prop}{K:List AV->Prop}:O1 (some { cells:=cells,sz:=sz,ty:=ty }) (some cs) n off w K=((w/\cs.all cB=true/\cs.length=n/\off+n<=cells.length)/\K cs):=by simp[O1]
theorem jf{l:List AV}:cy (.agg l)=some l:=rfl
theorem eJ{k:IntKind}{n:Int}:cy (.sc (.int k n))=some [.sc (.int k n)]:=rfl
theorem pz{s:ByteArray}:cy (.sc (.string s))=some [.sc (.string s)]:=rfl
theorem uR{b:Bool}:cy (.sc (.bool b))=some [.sc (.bool b)]:=rfl
theorem HM{a:Option Addr}{n c:Nat}:cy (.sc (.slice a n c))=some [.sc (.slice a n c)]:=rfl
theorem Vr{a:Option Addr}:cy (.sc (.pointer a))=some [.sc (.pointer a)]:=rfl
theorem Vt:cy (.sc .nilIface)=some [.sc .nilIface]:=rfl
theorem RZ{i o:Nat}:cy (.ptr i o)=some [.ptr i o]:=rfl
theorem LM{i o n:Nat}:cy (.sl i o n)=some [.sl i o n]:=rfl
theorem R0{t:TypeId}{v:AV}:cy (.kC t v)=some [.kC t v]:=rfl
theorem Vv{f:Fn}{a b:List AV}:cy (.fn f a b)=some [.fn f a b]:=rfl
theorem ly{h:AH}{id off:Nat}{cs cells:List AV}{sz:Nat}{ty:TypeId}(ho:h.obj id=some { cells:=cells,sz:=sz,ty:=ty }):(h.put id off cs).obj id=some { cells:=putCells cells off cs,sz:=sz,ty:=ty }:=by rw[AH.J1 ho]
theorem nP{a b:Nat}(h:a<b):a≠b/\b≠a/\a≠b+1/\b+1≠a/\a≠b+2/\b+2≠a/\a≠b+3/\b+3≠a/\a≠b+4/\b+4≠a:=by omega
theorem Cv{α:Type}(l:List α)(k:Nat):(l.map fun _=>k).sum=l.length*k:=by induction l with |nil=>simp |cons a l ih=>simp[ih,Nat.add_mul,Nat.add_comm]
attribute [simp] aN NX ck dS putCells Value.oneCell' cB aD cH jf eJ pz uR HM Vr Vt RZ LM R0 Vv
end
section
variable {P:Program} {N:Nat} {W:Nat->Prop}
def Hy(P:Program)(N:Nat)(W:Nat->Prop)(ops:Array Oper):List Nat->(St->AH->Prop)->(St->AV->AH->Prop)->St->AH->Prop
 |[],K,_,s,h=>K s h
 |i::r,K,KP,s,h=>match ops[i]? with
  |some o=>match o.guard with
   |none=>match sI o.op with
    |true=>qOp P o.op (lR s) h fun v _=>Hy P N W ops r K KP (s.put N o.dst v) h
    |false=>tY P W o.op (lR s) s.ds h (fun v nU h'=>Hy P N W ops r K KP (({ s with ds:=nU }:St).put N o.dst v) h') (KP s)
   |some _=>False
  |none=>False
theorem FA{ops:Array Oper}{K:St->AH->Prop}{KP:St->AV->AH->Prop}{E0:Env}{h0:AH}{w0:World}{Qc:Exit->Act->World->Prop}(oH:Rel E0 h0 w0)
  (hK:∀s h E w a,K s h->Step E0 h0 W w0 E h w->AR E N s a->Qc .normal a w)
  (Lb:∀s v h E w a u,KP s v h->Step E0 h0 W w0 E h w->AR E N s a->VR E v u->Qc (.panic [{ v:=u,recovered:=false }]) a w) :
  ∀(l:List Nat)(s:St)(h:AH)(E:Env)(w:World)(a:Act),Hy P N W ops l K KP s h->Step E0 h0 W w0 E h w->AR E N s a->wpOps P ops Qc l a w
 |[],s,h,E,w,a,hp,hs,ha=>hK s h E w a hp hs ha
 |i::r,s,h,E,w,a,hp,hs,ha=>by
  simp only[Hy]at hp
  rw[wpOps_cons]
  split at hp
  ·rename_i o ho
   split at hp
   ·rename_i hg
    have hw:Region.wanted o (yielded ops a.tmps)=true:=by unfold Region.wanted;rw[hg]
    unfold Go.wpOp
    simp only[ho,hw,zV]
    refine .inl ?_
    split at hp
    ·obtain⟨av,u,d,h1,h2,h3,h4⟩:=JZ o hs.rel ha hp
     have:=h4 w (fun _ _ _ _=>rfl)
     unfold Oper.wp
     rw[this,Oper.upon_value]
     exact FA oH hK Lb r _ h E w _ h2 hs (ha.put _ h1)
    ·refine FE o hs.rel ha hp ?_ ?_
     ·intro v nU E' h' w' a' h1 h2 h3
      exact FA oH hK Lb r _ h' E' w' a' h3 (hs.trans oH h1 fun _ _ hm=>.inl hm) h2
     ·intro v E' h' w' u h1 h2 h3
      exact Lb s v h' E' w' a u h3 (hs.trans oH h1 fun _ _ hm=>.inl hm) (ha.mono h1.env) h2
   ·exact hp.elim
  ·exact hp.elim
def QG(P:Program)(f:FuncId)(args:List AV)(h:AH)(M:Nat->Prop)(R:AH->Prop):Prop:=
 ∀E w dY,Rel E h w->cO E args dY->CallsD P f dY.toArray .returning w fun e u' w'=>(∃r,e=.returned r)/\u'=.returning/\∃E' h',Step E h M w E' h' w'/\R h'
def QH(P:Program)(f:FuncId)(args:List AV)(av:AV)(h:AH)(M:Nat->Prop)(R:AH->Prop):Prop:=
 ∀E w dY u,Rel E h w->cO E args dY->VR E av u->CallsD P f dY.toArray (.panicking [{ v:=u,recovered:=false }]) w fun e u' w'=>(∃r,e=.returned r)/\u'=.panicking [{ v:=u,recovered:=true }]/\∃E' h',Step E h M w E' h' w'/\R h'
section
variable {fn:Func} {M:Nat->Prop} {R:AE->AH->Prop} {E0 E:Env} {h0 h:AH} {w0 w:World} {s:St} {a:Act} {g:FuncId} {cap args:List AV}
def pC(E0:Env)(h0:AH)(M:Nat->Prop)(w0:World)(R:AE->AH->Prop):Ending->World->Prop:=fun e w'=>∃E' h' ae,Step E0 h0 M w0 E' h' w'/\ER E' ae e/\R ae h'
theorem CS(ha:AR E N s a)(oZ:s.ds=[⟨.func g,cap,args⟩]):∃vs ws,cO E cap vs/\cO E args ws/\a.defers=[⟨.fn (.func g) vs.toArray,ws.toArray⟩]:=by
 have:=ha.ds
 rw[oZ]at this
 generalize a.defers=l at this
 cases this with
 |cons h1 h2=>
  cases h2
  obtain⟨vs,ws,e1,e2,e3,e4⟩:=h1
  rename_i v
  refine⟨vs,ws,e3,e4,?_⟩
  cases v
  simp only at e1 e2
  rw[e1,e2]
theorem wh(hs:Step E0 h0 M w0 E h w)(ha:AR E N s a)(rR:lF P fn.results.toList s h fun vs=>R (.ret (gN vs)) h):Leaves P fn a.tmps (pC E0 h0 M w0 R) [] .returning w:=by
 obtain⟨v,u,b1,b2,b3⟩:=Ay hs.rel ha fn (fun v=>R (.ret v) h) rR
 exact⟨u,b3,E,h,.ret v,hs,b1,b2⟩
theorem KA(oH:Rel E0 h0 w0)(hs:Step E0 h0 M w0 E h w)(ha:AR E N s a)(oZ:s.ds=[⟨.func g,cap,args⟩])(he:xN P g=true){M':Nat->Prop}(hM:∀id,id<h.next->M' id->M id\/h0.next<=id)
  (hd:QG P g (args++cap) h M' fun h'=>lF P fn.results.toList s h' fun vs=>R (.ret (gN vs)) h'):Leaves P fn a.tmps (pC E0 h0 M w0 R) a.defers .returning w:=by
 obtain⟨vs,ws,e3,e4,e5⟩:=CS ha oZ
 rw[e5]
 refine leaves_cons (by simp) (f:=g) (args:=(ws++vs).toArray) ?_ ?_
 ·have:=r_ he (ws.toArray++vs.toArray) w
  simp only[invoke]
  rw[this];simp
 ·refine(hd E w _ hs.rel (e4.append e3)).mono ?_
  rintro e u' w' ⟨⟨r,rfl⟩,rfl,E',h',h1,h2⟩
  simp only[settle]
  exact wh (hs.trans oH h1 hM) (ha.mono h1.env) h2
theorem KB(oH:Rel E0 h0 w0)(hs:Step E0 h0 M w0 E h w)(ha:AR E N s a)(oZ:s.ds=[⟨.func g,cap,args⟩])(he:xN P g=true){av:AV}{u:Value}(hu:VR E av u){M':Nat->Prop}(hM:∀id,id<h.next->M' id->M id\/h0.next<=id)
  (hd:QH P g (args++cap) av h M' fun h'=>lF P fn.results.toList s h' fun vs=>R (.ret (gN vs)) h'):Leaves P fn a.tmps (pC E0 h0 M w0 R) a.defers (.panicking [{ v:=u,recovered:=false }]) w:=by
 obtain⟨vs,ws,e3,e4,e5⟩:=CS ha oZ
 rw[e5]
 refine leaves_cons (by simp) (f:=g) (args:=(ws++vs).toArray) ?_ ?_
 ·have:=r_ he (ws.toArray++vs.toArray) w
  simp only[invoke]
  rw[this];simp
 ·refine(hd E w _ u hs.rel (e4.append e3) hu).mono ?_
  rintro e u' w' ⟨⟨r,rfl⟩,rfl,E',h',h1,h2⟩
  simp only[settle,List.dropWhile_nil]
  exact wh (hs.trans oH h1 hM) (ha.mono h1.env) h2
end
def TC(P:Program)(N:Nat)(W:Nat->Prop)(E0:Env)(h0:AH)(w0:World)(c:Code)(Qc:Exit->Act->World->Prop)(s:St)(h:AH):Prop:=∀E w a,Step E0 h0 W w0 E h w->AR E N s a->c.wp P Qc a w
def DL:cm:=fun _ _ _=>False
def JG(N:Nat)(W:Nat->Prop)(E0:Env)(h0:AH)(w0:World)(Qc:Exit->Act->World->Prop):cG:=fun x s h=>∀e E w a,XR x e->Step E0 h0 W w0 E h w->AR E N s a->Qc e a w
variable {E0:Env} {h0:AH} {w0:World} {Qc:Exit->Act->World->Prop} {s:St} {h:AH}
theorem Qt(hm:P.follows .mixedOrders=true)(oH:Rel E0 h0 w0){pl:dm}{c:Code}(cS:kA P pl c=true)(hp:aw P N W pl c (JG N W E0 h0 w0 Qc) DL s h):TC P N W E0 h0 w0 c Qc s h:=by
 intro E w a hs ha
 refine wp_mono (pN hm c _ _ s h cS hp E w a hs.rel ha) ?_
 rintro e a' w' (⟨x,E',h',s',a1,a2,a3,a4⟩ |⟨v,u,E',h',ds,a1,a2,a3,a4,a5⟩)
 ·exact a4 e E' w' a' a1 (hs.trans oH a2 fun _ _ hm=>.inl hm) a3
 ·exact a5.elim
theorem Gd{x y:Code}(hx:TC P N W E0 h0 w0 x (fun e a w=>match e with |.normal=>y.wp P Qc a w |e=>Qc e a w) s h):TC P N W E0 h0 w0 (.seq x y) Qc s h:=by
 intro E w a hs ha
 refine wp_seq (wp_mono (hx E w a hs ha) ?_)
 intro e a' w' hq
 cases e<;>exact hq
theorem pB(hm:P.follows .mixedOrders=true)(oH:Rel E0 h0 w0){pl:dm}{c x y:Code}(hc:c=.seq x y)(cS:kA P pl x=true)(hp:aw P N W pl x (b_ (TC P N W E0 h0 w0 y Qc) (JG N W E0 h0 w0 Qc)) DL s h):TC P N W E0 h0 w0 c Qc s h:=by
 subst hc
 refine Gd (Qt hm oH cS (mO x ?_ (fun _ _ _ h=>h) hp))
 intro e s' h' hq
 intro e' E w a hx hs ha
 cases e<;>cases e'<;>first |exact hx.elim |skip
 ·exact hq E w a hs ha
 ·exact hq _ E w a hx hs ha
 ·exact hq _ E w a hx hs ha
 ·exact hq _ E w a hx hs ha
theorem LX(oH:Rel E0 h0 w0){id:Nat}{c:Code}{ops:Array Oper}(hc:c=.region id ops false){K:St->AH->Prop}{KP:St->AV->AH->Prop}
  (hK:∀s h E w a,K s h->Step E0 h0 W w0 E h w->AR E N s a->Qc .normal a w)
  (Lb:∀s v h E w a u,KP s v h->Step E0 h0 W w0 E h w->AR E N s a->VR E v u->Qc (.panic [{ v:=u,recovered:=false }]) a w)
  (hp:Hy P N W ops (List.range ops.size) K KP s h):TC P N W E0 h0 w0 c Qc s h:=by
 subst hc
 intro E w a hs ha
 exact wp_region (FA oH hK Lb _ s h E w a hp hs ha)
theorem zx{id:Nat}{c b:Code}(hc:c=.block id b)(hp:TC P N W E0 h0 w0 b (Exit.inBlock id Qc) s h):TC P N W E0 h0 w0 c Qc s h:=by
 subst hc
 intro E w a hs ha
 exact wp_block (hp E w a hs ha)
theorem HO{ι:Type}{c b:Code}(hc:c=.loop b)(I:ι->St->AH->Prop)(μ:ι->Nat)(i:ι)(wP:I i s h)
  (step:∀i s h,I i s h->TC P N W E0 h0 w0 b (fun e a w=>match e with |.normal=>∃i' s' h' E',μ i'<μ i/\I i' s' h'/\Step E0 h0 W w0 E' h' w/\AR E' N s' a |e=>Qc e a w) s h):TC P N W E0 h0 w0 c Qc s h:=by
 subst hc
 intro E w a hs ha
 refine wp_loop_rounds (μ i+1) ?_
 have key:∀(n:Nat)(i:ι)(s:St)(h:AH)(E:Env)(w:World)(a:Act),μ i<n->I i s h->Step E0 h0 W w0 E h w->AR E N s a->Code.rounds P b Qc n a w:=by
  intro n
  induction n with
  |zero=>intro i s h E w a aM;omega
  |succ n ih=>
   intro i s h E w a aM hi hs ha
   rw[rounds_succ]
   refine wp_mono (step i s h hi E w a hs ha) ?_
   intro e a' w' hq
   cases e with
   |normal=>
    obtain⟨i',s',h',E',h1,h2,h3,h4⟩:=hq
    exact ih i' s' h' E' w' a' (by omega) h2 h3 h4
   |_=>exact hq
 exact key _ i s h E w a (by omega) wP hs ha
end
section
variable {P:Program}
abbrev VK:=List AV->AH->Prop
abbrev DK:=(Nat->AV)->AH->Prop
def Am(G:VK->VK):Nat->VK
 |0=>fun _ _=>False
 |n+1=>G (Am G n)
def da(G:VK->VK):VK:=fun vs h=>∃n,Am G n vs h
theorem bX{ι:Type}{G:VK->VK}(I:ι->VK)(μ:ι->Nat)(i:ι){vs:List AV}{h:AH}(h0:I i vs h)
  (step:∀(K:VK) i vs h,I i vs h->(∀i' OZ h',μ i'<μ i->I i' OZ h'->K OZ h')->G K vs h):da G vs h:=by
 have key:∀n i vs h,μ i<n->I i vs h->Am G n vs h:=by
  intro n
  induction n with
  |zero=>intro i vs h aM;omega
  |succ n ih=>intro i vs h aM hi;exact step _ i vs h hi fun i' OZ h' h1 h2=>ih i' OZ h' (by omega) h2
 exact⟨μ i+1,key _ i vs h (by omega) h0⟩
def jp(P:Program):List ResultVar->List AV->AH->(List AV->Prop)->Prop
 |[],_,_,K=>K []
 |.tmp _::r,v::vs,h,K=>jp P r vs h fun l=>K (v::l)
 |.cell _ t::r,v::vs,h,K=>ai (kx P t) (eW P t) v h fun u _=>jp P r vs h fun l=>K (u::l)
 |_,_,_,_=>False
def sr:ResultVar->Nat
 |.tmp t=>t
 |.cell a _=>a
theorem F1{tm:Nat->AV}{ds:List fi}{h:AH}:∀(rs:List ResultVar)(K:List AV->Prop),lF P rs ⟨tm,ds⟩ h K=jp P rs (rs.map fun r=>tm (sr r)) h K
 |[],_=>rfl
 |.tmp t::rs,K=>by
  simp only[lF,List.map_cons,jp,sr]
  exact F1 rs _
 |.cell a t::rs,K=>by
  simp only[lF,List.map_cons,jp,sr]
  congr 1
  funext v _
  exact F1 rs _
def aH(P:Program)(rs:List ResultVar)(R:AE->AH->Prop):VK:=fun vs h=>jp P rs vs h fun l=>R (.ret (gN l)) h
theorem HJ{rs:List ResultVar}{R:AE->AH->Prop}{tm:Nat->AV}{h:AH}:cQ P rs R .ret ⟨tm,[]⟩ h=aH P rs R (rs.map fun r=>tm (sr r)) h:=by
 show([]=[]/\_)=_
 rw[F1]
 exact propext ⟨fun h=>h.2,fun h=>⟨rfl,h⟩⟩
theorem RX{rs:List ResultVar}{R:AE->AH->Prop}{tm:Nat->AV}{h:AH}:cQ P rs R .normal ⟨tm,[]⟩ h=aH P rs R (rs.map fun r=>tm (sr r)) h:=HJ
attribute [simp] aH jp
end
section
variable {P:Program} {N:Nat} {W:Nat->Prop} {pl:dm}
def nl(o:Oper):Bool:=match o.op with |.defer ..=>false |_=>true
def sC:Code->Bool
 |.region _ ops _=>ops.all nl
 |.seq a b |.cond _ a b=>sC a&&sC b
 |.block _ c |.loop c |.scope c=>sC c
 |_=>true
theorem WS{W:Nat->Prop}{o:Oper}(ho:nl o=true){ρ:Operand->AV}{ds:List fi}{h:AH}{K K':AV->List fi->AH->Prop}{KP xh:AV->AH->Prop}(hk:∀v h',K v ds h'->K' v ds h')(E7:∀v h',KP v h'->xh v h')
  (hp:tY P W o.op ρ ds h K KP):tY P W o.op ρ ds h K' xh:=by
 unfold nl at ho
 revert ho hp
 cases o.op<;>intro ho hp<;>simp only[tY]at hp ⊢<;>try exact hp.elim
 case alloc=>exact yJ (fun v h'=>hk v h') hp
 case box=>exact Dp (fun v h'=>hk v h') hp
 case store=>exact yH (fun h'=>hk ab h') hp
 case buildSlice=>exact Dq (fun v h'=>hk v h') hp
 case makeSlice=>exact FF (fun v h'=>hk v h') hp
 case makeMap t r=>
  cases r<;>simp only at hp ⊢
  exact Dn (fun v h'=>hk v h') hp
 case mapUpdate=>exact q_ (fun h'=>hk ab h') hp
 case insert=>exact q_ (fun h'=>hk ab h') hp
 case range=>exact yI (fun v h'=>hk v h') hp
 case next x b=>
  cases b<;>simp only at hp ⊢
  exact Bs (fun v h'=>hk v h') hp
 case panic=>unfold tB at *;split at hp<;>simp_all
 case defer c=>cases ho
 case call c=>
  split at hp
  ·exact Dr (fun v h'=>hk v h') hp
  split at hp
  ·exact Bt (fun v h'=>hk v h') hp
  ·split at hp
   ·exact Ga (fun v h'=>hk v h') E7 hp
   ·exact hp.elim
theorem AA(s:St)(d:Option Nat)(v:AV):(s.put N d v).ds=s.ds:=by
 unfold St.put
 split
 ·rfl
 ·split<;>rfl
section
variable {ds:List fi} {QP fN:cm}
theorem R3(eV:∀v h,QP ds v h->fN ds v h){Hd:Nat->Prop}{held:Bool}{o:Oper}(ho:nl o=true){K K':St->AH->Prop}(hk:∀s h,s.ds=ds->K s h->K' s h){s:St}{h:AH}(hs:s.ds=ds)(hp:rh P N W Hd QP held o K s h) :
  rh P N W Hd fN held o K' s h:=by
 unfold rh at *
 split at hp
 ·refine qOp_mono (fun v d _ hh=>?_) hp
  unfold cS at *
  split at hh
  ·exact hk _ _ (by rw[AA];exact hs) hh
  ·exact⟨hh.1,hk _ _ (by rw[AA];exact hs) hh.2⟩
 ·exact WS ho (fun v h'=>hk _ _ (by rw[AA];exact hs)) (fun v h'=>by rw[hs];exact eV v h') hp
theorem xM(eV:∀v h,QP ds v h->fN ds v h){Wf:Nat->Nat->Prop}{Hd:Nat->Nat->Prop}{ops:Array Oper}(ho:ops.all nl=true):∀(is:List (Nat×Bool)){K K':St->AH->Prop},(∀s h,s.ds=ds->K s h->K' s h)->∀{s:St}{h:AH},s.ds=ds->nu P N Wf Hd QP ops is K s h->nu P N Wf Hd fN ops is K' s h
 |[],_,_,hk,_,_,hs,hp=>hk _ _ hs hp
 |x::is,K,K',hk,s,h,hs,hp=>by
  simp only[nu]at hp ⊢
  split at hp
  ·rename_i o hx
   exact R3 eV (Array.all_eq_true_iff_forall_mem.1 ho o (Array.mem_of_getElem? hx)) (fun s h hs=>xM eV ho is hk hs) hs hp
  ·exact hp.elim
theorem JL{ops:Array Oper}:∀(is:List (Nat×Bool))(s:St),(Cy N ops is s).ds=s.ds
 |[],_=>rfl
 |x::is,s=>by simp only[Cy];rw[JL is,AA]
theorem Br(eV:∀v h,QP ds v h->fN ds v h){Wf:Nat->Nat->Prop}{Hd:Nat->Nat->Prop}{ops:Array Oper}(ho:ops.all nl=true):∀(gs:List (Option (Nat×Bool)×List (Nat×Bool))){K K':St->AH->Prop},(∀s h,s.ds=ds->K s h->K' s h)->∀{s:St}{h:AH},s.ds=ds->kW P N Wf Hd QP ops gs K s h->kW P N Wf Hd fN ops gs K' s h
 |[],_,_,hk,_,_,hs,hp=>hk _ _ hs hp
 |(none,is)::gs,K,K',hk,s,h,hs,hp=>by
  simp only[kW]at hp ⊢
  exact xM eV ho is (fun s h hs=>Br eV ho gs hk hs) hs hp
 |(some (j,want),is)::gs,K,K',hk,s,h,hs,hp=>by
  simp only[kW]at hp ⊢
  split at hp
  ·exact F9 (xM eV ho is (fun s h hs=>Br eV ho gs hk hs) hs) (Br eV ho gs hk (by rw[JL];exact hs)) hp
  ·exact hp.elim
mutual
theorem WO(eV:∀v h,QP ds v h->fN ds v h){Wf:Nat->Nat->Prop}{Hd:Nat->Nat->Prop}{ops:Array Oper}(ho:ops.all nl=true){K K':St->AH->Prop}(hk:∀s h,s.ds=ds->K s h->K' s h):∀(w:Way){s:St}{h:AH},s.ds=ds->wS P N Wf Hd QP ops w K s h->wS P N Wf Hd fN ops w K' s h
 |.mk path [],s,h,hs,hp=>by
  unfold wS at hp ⊢
  exact xM eV ho path hk hs hp
 |.mk path (w::ws),s,h,hs,hp=>by
  unfold wS at hp ⊢
  exact xM eV ho path (fun s h hs=>Fz eV ho hk (w::ws) hs) hs hp
termination_by w=>SizeOf.sizeOf w
theorem Fz(eV:∀v h,QP ds v h->fN ds v h){Wf:Nat->Nat->Prop}{Hd:Nat->Nat->Prop}{ops:Array Oper}(ho:ops.all nl=true){K K':St->AH->Prop}(hk:∀s h,s.ds=ds->K s h->K' s h):∀(ws:List Way){s:St}{h:AH},s.ds=ds->nH P N Wf Hd QP ops ws K s h->nH P N Wf Hd fN ops ws K' s h
 |[],s,h,hs,hp=>by unfold nH;trivial
 |w::r,s,h,hs,hp=>by
  unfold nH at hp ⊢
  exact⟨WO eV ho hk w hs hp.1,Fz eV ho hk r hs hp.2⟩
termination_by ws=>SizeOf.sizeOf ws
end
theorem Qi(eV:∀v h,QP ds v h->fN ds v h){Wf:Nat->Nat->Prop}{Hd:Nat->Nat->Prop}{ops:Array Oper}(ho:ops.all nl=true){K K':St->AH->Prop}(hk:∀s h,s.ds=ds->K s h->K' s h){s:St}{h:AH}{p:tC}(hs:s.ds=ds)(hp:sW P N Wf Hd QP ops p K s h):sW P N Wf Hd fN ops p K' s h:=by
 unfold sW at *
 split at hp
 ·exact Br eV ho _ hk hs hp
 ·exact Br eV ho _ (fun s h hs=>Fz eV ho hk _ hs) hs hp
theorem LW(eV:∀v h,QP ds v h->fN ds v h){ops:Array Oper}(ho:ops.all nl=true){id:Nat}{K K':St->AH->Prop}(hk:∀s h,s.ds=ds->K s h->K' s h){s:St}{h:AH}(hs:s.ds=ds)(hp:kM P N W QP pl id ops K s h) :
  kM P N W fN pl id ops K' s h:=by
 unfold kM at *
 split at hp
 ·exact xM eV ho _ hk hs hp
 ·split at hp
  ·exact Qi eV ho hk hs hp
  ·obtain⟨Hd,h1,h2⟩:=hp;exact⟨Hd,h1,Qi eV ho hk hs h2⟩
theorem GX{K K':St->AH->Prop}{Q Q':cG}(hk:∀s h,s.ds=ds->K s h->K' s h)(hq:∀x s h,s.ds=ds->Q x s h->Q' x s h):∀x s h,s.ds=ds->b_ K Q x s h->b_ K' Q' x s h:=by
 intro x s h hs hp
 cases x
 ·exact hk _ _ hs hp
 ·exact hq (.exit _) _ _ hs hp
 ·exact hq (.goto _) _ _ hs hp
 ·exact hq .ret _ _ hs hp
theorem w_(eV:∀v h,QP ds v h->fN ds v h):∀(c:Code){Q Q':cG},sC c=true->(∀x s h,s.ds=ds->Q x s h->Q' x s h)->∀{s:St}{h:AH},s.ds=ds->aw P N W pl c Q QP s h->aw P N W pl c Q' fN s h
 |.skip,_,_,_,hq,_,_,hs,hp=>hq _ _ _ hs hp
 |.label _,_,_,_,hq,_,_,hs,hp=>hq _ _ _ hs hp
 |.exit _,_,_,_,hq,_,_,hs,hp=>hq _ _ _ hs hp
 |.goto _,_,_,_,hq,_,_,hs,hp=>hq _ _ _ hs hp
 |.ret,_,_,_,hq,_,_,hs,hp=>hq _ _ _ hs hp
 |.rangeFunc ..,_,_,_,_,_,_,_,hp=>hp.elim
 |.refuse _,_,_,_,_,_,_,_,hp=>hp.elim
 |.region _ ops _,_,_,hd,hq,_,_,hs,hp=>LW eV hd (hq .normal) hs hp
 |.seq a b,_,_,hd,hq,_,_,hs,hp=>by
  simp only[sC,yC]at hd
  exact w_ eV a hd.1 (GX (fun _ _ hs=>w_ eV b hd.2 hq hs) hq) hs hp
 |.cond c a b,_,_,hd,hq,_,_,hs,hp=>by
  simp only[sC,yC]at hd
  exact F_ (w_ eV a hd.1 hq hs) (w_ eV b hd.2 hq hs) hp
 |.block id c,Q,Q',hd,hq,_,_,hs,hp=>by
  refine w_ eV c (Q:=eG id Q) hd ?_ hs hp
  intro x s h hs hp
  cases x with
  |exit j=>
   simp only[eG]at hp ⊢
   split at hp
   ·rename_i he;rw[zX he];exact hq _ _ _ hs hp
   ·rename_i he;rw[zW he];exact hq _ _ _ hs hp
  |normal=>exact hq .normal _ _ hs hp
  |goto l=>exact hq (.goto l) _ _ hs hp
  |ret=>exact hq .ret _ _ hs hp
 |.scope c,Q,Q',hd,hq,_,_,hs,hp=>by
  refine w_ eV c (Q:=pi Q) hd ?_ hs hp
  intro x s h hs hp
  cases x with
  |exit j=>exact hq (.exit j) _ _ hs hp
  |normal=>exact hq .normal _ _ hs hp
  |goto l=>exact hp.elim
  |ret=>exact hq .ret _ _ hs hp
 |.loop c,Q,Q',hd,hq,s,h,hs,hp=>by
  obtain⟨n,hp⟩:=hp
  refine⟨n,?_⟩
  have key:∀(n:Nat)(s:St)(h:AH),s.ds=ds->pP (aw P N W pl c) n Q QP s h->pP (aw P N W pl c) n Q' fN s h:=by
   intro n
   induction n with
   |zero=>intro s h _ hp;exact hp.elim
   |succ n ih=>intro s h hs hp;exact w_ eV c hd (GX (fun s h hs=>ih s h hs) hq) hs hp
  exact key n s h hs hp
end
abbrev WK:=Nat->Prop
abbrev EK:=Nat->VK
abbrev PK:=AV->AH->Prop
abbrev kP(QP:AV->AH->Prop):cm:=fun _=>QP
theorem SO{F:cG->cm->St->AH->Prop}{Q:cG}{QP:cm}{L:(Nat->AV)->List AV}{G:VK->VK}
  (hs:∀(Kn:VK)(KQ:St->AH->Prop),(∀s h,KQ s h=Kn (L s.tm) h)->∀s h,F (b_ KQ Q) QP s h=G Kn (L s.tm) h):∀s h,lb F Q QP s h=da G (L s.tm) h:=by
 intro s h
 have key:∀n s h,pP F n Q QP s h=Am G n (L s.tm) h:=by
  intro n
  induction n with
  |zero=>intro s h;rfl
  |succ n ih=>intro s h;exact hs (Am G n) (fun s h=>pP F n Q QP s h) ih s h
 unfold lb da
 exact congrArg Exists (funext fun n=>key n s h)
theorem Vj{rs:List ResultVar}{R:AE->AH->Prop}{c:Code}{q:cG}{s:St}{h:AH}(hd:sC c=true)(hq:∀s h,q .ret s h=aH P rs R (rs.map fun r=>s.tm (sr r)) h)(hn:∀s h,q .normal s h=aH P rs R (rs.map fun r=>s.tm (sr r)) h)
  (he:∀j s h,¬q (.exit j) s h) (hg:∀l s h,¬q (.goto l) s h) (hs:s.ds=[]) (hp:aw P N W pl c q (kP fun v h=>R (.bV v) h) s h):aw P N W pl c (cQ P rs R) (bF R) s h:=by
 refine w_ (fun v h hh=>⟨rfl,hh⟩) c hd (fun x s h hs hh=>?_) hs hp
 obtain⟨tm,ds⟩:=s
 simp only at hs
 subst hs
 cases x with
 |ret=>rw[HJ];rw[hq]at hh;exact hh
 |normal=>rw[RX];rw[hn]at hh;exact hh
 |exit j=>exact(he j _ _ hh).elim
 |goto l=>exact(hg l _ _ hh).elim
end
section
theorem Fr.iY{h h1:AH}{S:Nat->Prop}(a:Fr h h1 S){id:Nat}{k:Kind}(hs:S id\/h.next<=id):Fr h (h1.iY id k) S:=
 ⟨a.next,fun i hi hn=>by rw[AH.pG,zW (fun e=>by subst e;exact hs.elim hn (fun h=>by omega))];exact a.dA i hi hn⟩
theorem Fr.Ed{h h1:AH}(a:Fr h h1 fun _=>False){id:Nat}{k:Kind}(hs:h.next<=id):Fr h (h1.iY id k) fun _=>False:=a.iY (.inr hs)
theorem decode_ascii(s:ByteArray)(i:Nat)(h:i<s.size)(hc:s[i].toNat<128):Utf8.decode s i=(s[i].toNat,1):=by
 have hg:s.get! i=s[i]:=by
  cases s with
  |mk d=>
   show d[i]! = d[i]'h
   exact getElem!_pos d i h
 unfold Utf8.decode
 simp only[Nat.add_zero,hg]
 rw[zX hc]
theorem b5{h:AH}{i j:Nat}{a b:AO}(hi:h.obj i=some a)(hj:h.obj j=some b)(cC:a.ty≠b.ty):i≠j:=fun e=>by subst e;rw[hi]at hj;exact cC (by rw[Option.some.inj hj])
theorem bw.bJ{α:Type}{f:α->List AV}{sz:Nat}{ty:TypeId}{h h':AH}{S:Nat->Prop}{x:AV}{l:List α}(hl:bw f sz ty h x l)(hf:Fr h h' S)(hx:∀id,x=.sl id 0 l.length->¬S id):bw f sz ty h' x l:=by
 rcases hl with hl |⟨id,rfl,ho⟩
 ·exact .inl hl
 ·exact .inr ⟨id,rfl,hf.obj ho (hx id rfl)⟩
theorem oB(A:List AV):∀(cs B:List AV)(o:Nat),putCells (A++B) (A.length+o) cs=A++putCells B o cs
 |[],B,o=>rfl
 |c::cs,B,o=>by
  simp only[putCells]
  rw[List.set_append_right _ _ (by omega),Nat.add_sub_cancel_left,Nat.add_assoc,oB A cs (B.set o c) (o+1)]
theorem qT:∀(cs X Y:List AV),cs.length=X.length->putCells (X++Y) 0 cs=cs++Y
 |[],X,Y,h=>by have:X=[]:=List.length_eq_zero_iff.1 (by simpa using h.symm);subst this;rfl
 |c::cs,[],Y,h=>by simp at h
 |c::cs,x::X,Y,h=>by
  have h':cs.length=X.length:=by simpa using h
  have:=oB [c] cs (X++Y) 0
  simp only[putCells,List.cons_append,List.set_cons_zero,List.singleton_append,List.nil_append,List.length_singleton,Nat.add_zero,zG]at this ⊢
  rw[this,qT cs X Y h']
theorem DH{α:Type}{f:α->List AV}{k:Nat}(hf:∀x,(f x).length=k)(A B:List α)(x y:α):putCells ((A++x::B).flatMap f) (A.length*k) (f y)=(A++y::B).flatMap f:=by
 simp only[List.flatMap_append,List.flatMap_cons]
 have h1:=oB (A.flatMap f) (f y) (f x++B.flatMap f) 0
 rw[fR hf,Nat.add_zero]at h1
 rw[h1,qT _ _ _ (by rw[hf,hf])]
theorem abz{α:Type}{f:α->List AV}{sz bytes:Nat}{ty:TypeId}{z:List Value}(hf:∀x,(f x).length=sz)(gZ:0<sz)(hz:z.length=sz+sz)(h1:∀x,(f x).all cB=true)(hb:bytes<=1024)
  {h:AH} {s t:α} {W:Nat->Prop} {K:AV->AH->Prop}
  (hK:∀y h',bw f sz ty h' y [s,t]->cz (h.next<=·) y->Fr h h' (fun _=>False)->K y h') :
  db (some (sz,ty,z)) 2 [(0,.agg (f s)),(1,.agg (f t))] h (fun v h4=>dV (some (sz,bytes,ty)) aV v h4 W K):=by
 have e1:putCells (z.map AV.sc) 0 (f s)=f s++(z.map AV.sc).drop sz:=by
  conv=>lhs;rw[<-List.take_append_drop sz (z.map AV.sc)]
  rw[qT _ _ _ (by rw[hf];simp;omega)]
 have e2:putCells (f s++(z.map AV.sc).drop sz) sz (f t)=f s++f t:=by
  have:=oB (f s) (f t) ((z.map AV.sc).drop sz) 0
  rw[hf,Nat.add_zero]at this
  rw[this]
  have:=qT (f t) ((z.map AV.sc).drop sz) [] (by rw[hf];simp;omega)
  rw[List.append_nil,List.append_nil]at this
  rw[this]
 have jM:dS (fun i=>some (i*sz,sz)) (z.map .sc) [(0,.agg (f s)),(1,.agg (f t))]=some (f s++f t):=by
  simp only[dS,jf,Nat.zero_mul,Nat.one_mul,zG,hf,zH]
  rw[zX (by simp;omega),e1,zX (by simp[hf];omega),e2]
 refine⟨_,⟨jM,by simp only[List.all_append,h1,Bool.and_self]⟩,2,f s++f t,.inr ⟨rfl,_,AH.cK _ _,rfl,by simp[hf];omega,?_⟩,?_⟩
 ·rw[List.drop_zero,List.take_of_length_le (by simp[hf];omega)]
 ·show if 2=0 then _ else _
  rw[zW (by omega)]
  refine⟨⟨by omega,by omega⟩,?_⟩
  refine hK _ _ (.inr ⟨_,rfl,?_⟩) ?_ ((Fr.refl.alloc _).alloc _)
  ·rw[AH.cK];simp[aO]
  ·intro i off n he;cases he;simp only[AH.bU];omega
theorem mP{α:Type}{f:α->List AV}{sz bytes:Nat}{ty:TypeId}{z:List Value}(hf:∀x,(f x).length=sz)(gZ:0<sz)(hz:z.length=sz)(h1:∀x,(f x).all cB=true)(hb:bytes<=1024)
  {h:AH} {x:AV} {l:List α} {t:α} {W:Nat->Prop} {K:AV->AV->AH->Prop} (hl:bw f sz ty h x l) (hw:cz W x) (hn:l.length<=100000000)
  (hK:∀v y h',bw f sz ty h' y (l++[t])->cz (h.next<=·) y->Fr h h' (fun i=>∃off n,x=.sl i off n)->K v y h') :
  db (some (sz,ty,z)) 1 [(0,.agg (f t))] h (fun v h4=>dV (some (sz,bytes,ty)) x v h4 W (K v)):=by
 exact Vy hf gZ hz h1 hb hl hw hn (fun y h' a b c d=>hK (.sl h.next 0 1) y h' a b ⟨d,fun i hi hs=>c i hi (fun off n he=>hs ⟨off,n,he⟩)⟩)
theorem WX{α:Type}{f:α->List AV}{sz bytes:Nat}{ty:TypeId}{z:List Value}(hf:∀x,(f x).length=sz)(gZ:0<sz)(hz:z.length=sz+sz)(h1:∀x,(f x).all cB=true)(hb:bytes<=1024)
  {h:AH} {s t:α} {W:Nat->Prop} {K:AV->AV->AH->Prop}
  (hK:∀v y h',bw f sz ty h' y [s,t]->cz (h.next<=·) y->Fr h h' (fun _=>False)->K v y h') :
  db (some (sz,ty,z)) 2 [(0,.agg (f s)),(1,.agg (f t))] h (fun v h4=>dV (some (sz,bytes,ty)) aV v h4 W (K v)):=by
 exact abz hf gZ hz h1 hb (hK (.sl h.next 0 2))
theorem bw.sl{α:Type}{f:α->List AV}{sz:Nat}{ty:TypeId}{h:AH}{y:AV}{l:List α}(hl:bw f sz ty h y l)(cC:l≠[]):∃id,y=.sl id 0 l.length:=by
 rcases hl with⟨_,h2⟩ |⟨id,h2,_⟩
 ·exact absurd h2 cC
 ·exact⟨id,h2⟩
theorem Jg{α:Type}{f:α->List AV}{sz bytes:Nat}{ty:TypeId}{z:List Value}(hf:∀x,(f x).length=sz)(gZ:0<sz)(hz:z.length=sz)(hb:bytes<=1024)
  {h:AH} {x:AV} {l:List α} {t:α} {W:Nat->Prop} {K:AV->AV->AH->Prop} (h1:(f t).all cB=true) (hl:bw f sz ty h x l) (hw:cz W x) (hn:l.length<=100000000)
  (hK:∀y h',bw f sz ty h' y (l++[t])->cz (h.next<=·) y->(∀i,i<h.next->(∀off n,x≠.sl i off n)->h'.obj i=h.obj i)->h.next<=h'.next->K (.sl h.next 0 1) y h') :
  db (some (sz,ty,z)) 1 [(0,.agg (f t))] h (fun v h4=>dV (some (sz,bytes,ty)) x v h4 W (K v)):=by
 have jM:dS (fun i=>some (i*sz,sz)) (z.map .sc) [(0,.agg (f t))]=some (f t):=by
  simp only[dS,cy,Nat.zero_mul,hf,zZ,hz,zG,zU,and_self,zV]
  rw[mz (by simp[hf,hz])]
 refine⟨f t,⟨jM,h1⟩,?_⟩
 have wA:(l.length+1)*bytes<=140737488355328:=by
  have:(l.length+1)*bytes<=100000001*1024:=Nat.mul_le_mul (by omega) hb
  omega
 have jL:((f t).drop 0).take (1*sz)=f t:=by rw[List.drop_zero,List.take_of_length_le (by rw[hf];omega)]
 rcases hl with⟨rfl,rfl⟩ |⟨id,rfl,ho⟩
 ·refine⟨1,f t,.inr ⟨rfl,_,AH.cK _ _,rfl,by simp[hf],jL.symm⟩,?_⟩
  show if 1=0 then _ else _
  rw[zW (by omega)]
  refine⟨⟨by omega,by simpa using wA⟩,?_⟩
  refine hK _ _ (.inr ⟨_,rfl,?_⟩) ?_ ?_ ?_
  ·rw[AH.cK];simp[aO]
  ·intro i off n he;cases he;simp only[AH.bU];omega
  ·intro i hi _;rw[AH.alloc_old (by simp only[AH.bU];omega),AH.alloc_old hi]
  ·simp only[AH.bU];omega
 ·have hid:=h.lt _ _ ho
  refine⟨1,f t,.inr ⟨rfl,_,AH.cK _ _,rfl,by simp[hf],jL.symm⟩,?_⟩
  show if 1=0 then _ else _
  rw[zW (by omega)]
  have hlen:(l.flatMap f).length=l.length*sz:=fR hf l
  refine⟨rfl,_,⟨hw _ _ _ rfl,by rw[AH.alloc_old hid];exact ho,rfl,rfl,rfl,rfl,by simp[aO,hlen],by omega,wA⟩,?_⟩
  refine hK _ _ (.inr ⟨_,by rw[List.length_append,List.length_singleton],?_⟩) ?_ ?_ ?_
  ·rw[AH.b9,zX (by simp[AH.bU,AH.fU])]
   simp only[aO,List.flatMap_append,List.flatMap_cons,List.flatMap_nil,List.append_nil]
   rw[List.take_of_length_le (by rw[hlen];exact zU _)]
  ·intro i off n he;cases he;simp only[AH.bU];omega
  ·intro i hi cC
   have:i≠id:=fun e=>cC 0 l.length (by rw[e])
   rw[AH.alloc_old (by simp only[AH.bU,AH.fU];omega),AH.rr this,AH.alloc_old hi]
  ·simp only[AH.bU,AH.fU];omega
def cf{α:Type}(f:α->List AV)(sz:Nat)(ty:TypeId)(h:AH)(x:AV)(l:List α):Prop:=
 (x=aV/\l=[])\/(∃a c,x=.sc (.slice a 0 c)/\l=[])\/∃id rest ro nL,x=.sl id 0 l.length/\(ro=false->nL=ty)/\h.obj id=some { cells:=l.flatMap f++rest,sz:=sz,ty:=nL,ro:=ro,kind:=.row }
theorem bw.fl{α:Type}{f:α->List AV}{sz:Nat}{ty:TypeId}{h:AH}{x:AV}{l:List α}(hl:bw f sz ty h x l):cf f sz ty h x l:=by
 rcases hl with hl |⟨id,h1,h2⟩
 ·exact .inl hl
 ·exact .inr (.inr ⟨id,[],false,ty,h1,fun _=>rfl,by simpa[aO] using h2⟩)
theorem cf.fr{α:Type}{f:α->List AV}{sz:Nat}{ty:TypeId}{h h':AH}{S:Nat->Prop}{x:AV}{l:List α}(hl:cf f sz ty h x l)(hf:Fr h h' S)(hs:∀id o,h.obj id=some o->(o.ro=false->o.ty=ty)->¬S id):cf f sz ty h' x l:=by
 rcases hl with hl |hl |⟨id,rest,ro,nL,h1,h3,h2⟩
 ·exact .inl hl
 ·exact .inr (.inl hl)
 ·exact .inr (.inr ⟨id,rest,ro,nL,h1,h3,hf.obj h2 (hs id _ h2 h3)⟩)
theorem cf.bp{α:Type}{f:α->List AV}{sz:Nat}{ty:TypeId}{h h':AH}{x:AV}{l:List α}(hl:cf f sz ty h x l)(hf:Fr h h' fun _=>False):cf f sz ty h' x l:=hl.fr hf fun _ _ _ _ h=>h
theorem cf.len{α:Type}{f:α->List AV}{sz:Nat}{ty:TypeId}{h:AH}{x:AV}{l:List α}(hl:cf f sz ty h x l):(aW x=false)/\∀K:AV->Prop,bL x K=K (.sc (.int .i64 l.length)):=by
 rcases hl with⟨rfl,rfl⟩ |⟨a,c,rfl,rfl⟩ |⟨id,rest,ro,nL,rfl,_,_⟩<;>exact⟨rfl,fun _=>rfl⟩
theorem cf.one{α:Type}{f:α->List AV}{sz:Nat}{ty:TypeId}{h:AH}{x:AV}{l:List α}(hl:cf f sz ty h x l):cB x=true/\cy x=some [x]:=by
 rcases hl with⟨rfl,rfl⟩ |⟨a,c,rfl,rfl⟩ |⟨id,rest,ro,nL,rfl,_,_⟩<;>exact⟨rfl,rfl⟩
theorem cf.at_{α:Type}{f:α->List AV}{sz:Nat}{ty:TypeId}{h:AH}{x:AV}{l:List α}(hl:cf f sz ty h x l)(hf:∀y,(f y).length=sz){i:Nat}{y:α}(hy:l[i]?=some y) :
  ∃id cells ro nL,x=.sl id 0 l.length/\h.obj id=some { cells:=cells,sz:=sz,ty:=nL,ro:=ro,kind:=.row }/\(cells.drop (i*sz)).take sz=f y/\i*sz+sz<=cells.length/\∀j,j<sz->cells[i*sz+j]?=(f y)[j]?:=by
 have hi:i<l.length:=(zM.1 hy).1
 rcases hl with⟨_,rfl⟩ |⟨_,_,_,rfl⟩ |⟨id,rest,ro,nL,h1,_,h2⟩
 ·simp at hi
 ·simp at hi
 ·have hlen:(l.flatMap f).length=l.length*sz:=fR hf l
  have hle:i*sz+sz<=(l.flatMap f).length:=by
   rw[hlen,<-Nat.succ_mul]
   exact Nat.mul_le_mul_right _ hi
  refine⟨id,_,ro,nL,h1,h2,?_,by simp only[List.length_append];omega,fun j hj=>?_⟩
  ·rw[List.drop_append_of_le_length (by omega),List.take_append_of_le_length (by rw[List.length_drop];omega)]
   exact sV hf l i y hy
  ·rw[List.getElem?_append_left (by omega),gD hf l i j hj,hy];rfl
variable {P:Program} {α:Type} {f:α->List AV} {sz:Nat} {ty:TypeId} {h:AH} {x:AV} {l:List α} {i:Nat} {y:α} {W:Nat->Prop}
theorem ll{K:AV->Nat->Prop}(hl:cf f sz ty h x l)(hf:∀y,(f y).length=sz)(hi:l[i]?=some y)(hK:∀q,K (.agg (f y)) q) :
  bM (some (sz,none)) x (.sc (.int .i64 i)) fun t=>ai (some true) (some sz) t h K:=by
 have aM:i<l.length:=(zM.1 hi).1
 obtain⟨id,cells,ro,nL,rfl,ho,h1,h2,_⟩:=hl.at_ hf hi
 simp only[rk,p5,ho,nS,zG,zY]
 refine⟨⟨by omega,by omega⟩,h2,?_⟩
 rw[h1];exact hK _
theorem dC{K:AV->Nat->Prop}{k:Nat}{v:AV}(hl:cf f sz ty h x l)(hf:∀y,(f y).length=sz)(hi:l[i]?=some y)(hk:k<sz)(hv:(f y)[k]?=some v)(hK:∀q,K v q) :
  bM (some (sz,none)) x (.sc (.int .i64 i)) fun t=>ag (some k) t fun t=>ai (some false) (some 1) t h K:=by
 have aM:i<l.length:=(zM.1 hi).1
 obtain⟨id,cells,ro,nL,rfl,ho,h1,h2,h3⟩:=hl.at_ hf hi
 simp only[rk,al,aF,ho,aB,zG,zY]
 refine⟨⟨by omega,by omega⟩,?_⟩
 rw[h3 _ hk,hv];exact hK _
theorem ju{K:AV->Nat->Prop}{v:AV}(hl:cf f 1 ty h x l)(hf:∀y,(f y).length=1)(hi:l[i]?=some y)(hv:f y=[v])(hK:∀q,K v q) :
  bM (some (1,none)) x (.sc (.int .i64 i)) fun t=>ai (some false) (some 1) t h K:=by
 have aM:i<l.length:=(zM.1 hi).1
 obtain⟨id,cells,ro,nL,rfl,ho,h1,h2,h3⟩:=hl.at_ hf hi
 have h4:=h3 0 (by omega)
 rw[Nat.mul_one]at h4
 simp only[rk,aF,ho,aB,zG,zY,Nat.mul_one]
 refine⟨⟨by omega,by omega⟩,?_⟩
 rw[show i=i+0 by omega,h4,hv];exact hK _
theorem hZ{K:AV->AH->Prop}{z:List Value}(hl:cf f sz ty h x l)(hf:∀y,(f y).length=sz)(ho:(f y).all cB=true)(hi:l[i]?=some y)(hz:z.all (·.oneCell')=true)(hn:z.length=sz)(hW:∀id,h.next<=id->W id)
  (hK:∀vn h',Fr h h' (fun _=>False)->h.next<=vn->h'.obj vn=some (aO (f y) sz ty)->K (.ptr vn 0) h') :
  bM (some (sz,none)) x (.sc (.int .i64 i)) fun t=>ai (some true) (some sz) t h fun v _=>bH (some z) sz ty h fun p h1=>aG (some sz) p v h1 W fun h2=>K p h2:=by
 refine ll hl hf hi fun q=>?_
 have hv:=AH.cK h (aO (z.map AV.sc) sz ty)
 simp only[aN,aD,hv,jf,cH]
 refine⟨hz,⟨hW _ (zU _),ho,hf _,by simp[hn]⟩,?_⟩
 refine hK _ _ ((Fr.refl.alloc _).put (.inr (zU _))) (zU _) ?_
 rw[ly hv]
 congr 1
 simp only[aO]
 congr 1
 exact mz (by simp[hn,hf])
theorem dN{K:AV->Nat->Prop}{cs:List AV}{vn:Nat}(ho:h.obj vn=some (aO cs sz ty))(hc:cs.length=sz)(hK:∀q,K (.agg cs) q):ai (some true) (some sz) (.ptr vn 0) h K:=by
 simp only[p5,ho,nS,zG,List.drop_zero]
 refine⟨by omega,?_⟩
 rw[List.take_of_length_le (by omega)];exact hK _
theorem eH{K:AV->Nat->Prop}{cs:List AV}{vn k:Nat}{v:AV}(ho:h.obj vn=some (aO cs sz ty))(hv:cs[k]?=some v)(hK:∀q,K v q):ag (some k) (.ptr vn 0) fun t=>ai (some false) (some 1) t h K:=by
 simp only[al,aF,ho,aB,zG,hv];exact hK _
theorem cW{K:AV->AH->Prop}{cs:List AV}(ho:cs.all cB=true)(hK:∀vn h',Fr h h' (fun _=>False)->h.next<=vn->h'.obj vn=some (aO cs sz ty)->K (.ptr vn 0) h'):dF sz ty (.agg cs) h K:=
 ⟨cs,rfl,ho,hK _ _ (Fr.refl.alloc _) (zU _) (AH.cK h _)⟩
theorem gH{K:AV->AH->Prop}{z:List Value}{cs:List AV}(ho:cs.all cB=true)(hc:cs.length=sz)(hz:z.all (·.oneCell')=true)(hn:z.length=sz)(hW:∀id,h.next<=id->W id)
  (hK:∀vn h',Fr h h' (fun _=>False)->h.next<=vn->h'.obj vn=some (aO cs sz ty)->K (.ptr vn 0) h') :
  bH (some z) sz ty h fun p h1=>aG (some sz) p (.agg cs) h1 W fun h2=>K p h2:=by
 have hv:=AH.cK h (aO (z.map AV.sc) sz ty)
 simp only[aN,aD,hv,jf,cH]
 refine⟨hz,⟨hW _ (zU _),ho,hc,by simp[hn]⟩,?_⟩
 refine hK _ _ ((Fr.refl.alloc _).put (.inr (zU _))) (zU _) ?_
 rw[ly hv]
 congr 1
 simp only[aO]
 congr 1
 exact mz (by simp[hn,hc])
theorem Fr.bO{h h1 h2:AH}(a:Fr h h1 fun _=>False)(b:Fr h1 h2 fun _=>False):Fr h h2 fun _=>False:=a.trans (b.mono fun _ h=>h.elim)
theorem Fr.bQ{h h1:AH}(a:Fr h h1 fun _=>False){id:Nat}{o:AO}(ho:h.obj id=some o):h1.obj id=some o:=a.obj ho fun h=>h
section
variable {α:Type} {f:α->List AV} {sz bytes:Nat} {ty:TypeId} {h:AH} {h0:AH} {W:Nat->Prop} {K:AV->AH->Prop} {id:Nat}
theorem LD{n m:Nat}{K:AV->Prop}(h:n<=m)(hK:K (.sl id 0 n)):tj (some sz) (.sl id 0 m) none (some (.sc (.int .i64 n))) h0 K:=by
 refine⟨0,n,rfl,rfl,⟨by omega,by omega,.inl ⟨rfl,by omega⟩⟩,?_⟩
 simpa using hK
end
theorem ru{sz:Nat}{ty:TypeId}{z:List Value}{len:Nat}{parts:List (Nat×AV)}{cells:List AV}{h:AH}{K:AV->AH->Prop}(hf:dS (fun i=>some (i*sz,sz)) (z.map .sc) parts=some cells/\cells.all cB=true)
  (hK:∀id h',Fr h h' (fun _=>False)->h.next<=id->h'.obj id=some (aO cells sz ty)->K (.sl id 0 len) h'):db (some (sz,ty,z)) len parts h K:=
 ⟨cells,hf,hK _ _ (Fr.refl.alloc _) (zU _) (AH.cK h _)⟩
theorem iE(x y:Int):(x != y)=!decide (x=y):=by by_cases h:x=y<;>simp[h]
abbrev B(b:Bool):AV:=.sc (.bool b)
abbrev I(n:Int):AV:=.sc (.int .i64 n)
abbrev U(n:Int):AV:=.sc (.int .u64 n)
abbrev Sb(s:ByteArray):AV:=.sc (.string s)
end
section
variable {P:Program} {κ:Type} {enc:κ->AV} {kt et:TypeId} {h:AH} {id:Nat} {l:List (κ×AV)} {n:κ} {z v:AV} {ok:Bool} {ty:TypeId}
def uY[DecidableEq κ](P:Program)(kt:TypeId)(enc:κ->AV):Prop:=∀a b,jC P kt (enc a) (enc b)=some (decide (a=b))
theorem M0(hs:ii P kt=true):uY P kt Sb:=fun a b=>by simp[jC,hs]
theorem RE(hf:lu P kt=some [true,false]):uY P kt (fun x:ByteArray×Int=>AV.agg [Sb x.1,I x.2]):=fun a b=>by
 obtain⟨a1,a2⟩:=a
 obtain⟨b1,b2⟩:=b
 simp only[jC,hf,gO,Option.bind_some,List.length_cons,List.length_nil,and_self,zV,yB,Bool.and_true,Prod.mk.injEq]
 by_cases h1:a1=b1<;>by_cases h2:a2=b2<;>simp[h1,h2]
def eu[DecidableEq κ](n:κ):List (κ×AV)->Option AV
 |[]=>none
 |(k,v)::l=>if n=k then some v else eu n l
abbrev Ph(enc:κ->AV)(l:List (κ×AV)):List (AV×AV):=l.map fun x=>(enc x.1,x.2)
abbrev lB(enc:κ->AV)(ty:TypeId)(l:List (κ×AV)):AO:={ cells:=[],sz:=0,ty:=ty,kind:=.map (Ph enc l) }
theorem B5[DecidableEq κ](hk:uY P kt enc)(n:κ):∀(l:List (κ×AV))(i:Nat),(∃j v,eu n l=some v/\mH P kt (enc n) (Ph enc l) i=some (some (j,v)))\/(eu n l=none/\mH P kt (enc n) (Ph enc l) i=some none)
 |[],i=>.inr ⟨rfl,rfl⟩
 |(k,v)::l,i=>by
  simp only[eu,List.map_cons,mH,hk n k]
  by_cases e:n=k
  ·rw[zX e,zL e]
   exact .inl ⟨i,v,rfl,rfl⟩
  ·rw[zW e,zK e]
   exact B5 hk n l (i+1)
theorem Hc[DecidableEq κ](hk:uY P kt enc):qZ P kt (enc n)=true:=by unfold qZ;rw[hk];rfl
def gu(ok:Bool)(z:AV):Option AV->AV
 |some v=>if ok then .cM [v,.b true] else v
 |none=>if ok then .cM [z,.b false] else z
theorem Ru[DecidableEq κ]{K:AV->Prop}(hk:uY P kt enc)(hz:nX P et=some z)(hK:K (gu ok z (eu n l))):xF P (kt,et) (Ph enc l) (enc n) ok K:=by
 refine⟨Hc hk,?_⟩
 rcases B5 hk n l 0 with⟨j,v,h1,h2⟩ |⟨h1,h2⟩
 ·rw[h1]at hK
  exact⟨_,z,h2,hz,hK⟩
 ·rw[h1]at hK
  exact⟨_,z,h2,hz,hK⟩
theorem ir[DecidableEq κ]{K:AV->Option Nat->Prop}(hk:uY P kt enc)(hz:nX P et=some z)(ho:h.obj id=some (lB enc ty l))(hK:∀d,K (gu ok z (eu n l)) d):fX P (some (kt,et)) (.mp id) (enc n) ok h K:=
 ⟨_,_,⟨ho,rfl⟩,Ru hk hz (hK _)⟩
theorem uq[DecidableEq κ]{W:Nat->Prop}{K:AH->Prop}(hk:uY P kt enc)(hW:W id)(ho:h.obj id=some (lB enc ty l))(hn:eu n l=none)
  (hK:∀h',h'.obj id=some (lB enc ty (l++[(n,v)]))->Fr h h' (·=id)->K h'):dP P (some (kt,et)) (.mp id) (enc n) v h W K:=by
 rcases B5 hk n l 0 with⟨j,v,h1,h2⟩ |⟨h1,h2⟩
 ·rw[hn]at h1;cases h1
 ·refine⟨_,_,none,⟨hW,ho,rfl,rfl⟩,Hc hk,h2,hK _ ?_ ?_⟩
  ·rw[AH.pG,zX rfl,ho]
   simp[lB,Tz]
  ·exact Fr.refl.iY (.inl rfl)
theorem zf{K:AV->AH->Prop}{t:TypeId}(hK:∀id h',h'.obj id=some (lB enc t [])->h.next<=id->Fr h h' (fun _=>False)->K (.mp id) h'):qD t h K:=
 hK _ _ (AH.cK h _) (zU _) (Fr.refl.alloc _)
theorem Nw[DecidableEq κ]{a b:List (κ×AV)}:eu n (a++b)=(eu n a).or (eu n b):=by
 induction a with
 |nil=>rfl
 |cons x a ih=>
  obtain⟨k,w⟩:=x
  simp only[List.cons_append,eu]
  by_cases e:n=k
  ·rw[zX e,zX e];rfl
  ·rw[zW e,zW e,ih]
theorem zn[DecidableEq κ]{α:Type}{f:α->κ}{g:α->AV}:∀{l:List α},eu n (l.map fun x=>(f x,g x))=(l.find? fun x=>decide (f x=n)).map g
 |[]=>rfl
 |x::l=>by
  simp only[List.map_cons,eu,List.find?_cons]
  by_cases e:n=f x
  ·rw[zX e,zL e.symm];rfl
  ·rw[zW e,zK (fun h=>e h.symm)];exact zn
theorem FX{α:Type}{f:α->List AV}{sz bytes:Nat}{ty:TypeId}{z:List Value}(hf:∀x,(f x).length=sz)(gZ:0<sz)(hz:z.length=sz)(hb:bytes<=1024)
  {h:AH} {x:AV} {l:List α} {t:α} {W:Nat->Prop} {K:AV->AV->AH->Prop} {v0:AV} (hv:cy v0=some (f t)) (h1:(f t).all cB=true) (hl:bw f sz ty h x l) (hw:cz W x) (hn:l.length<=100000000)
  (hK:∀y h',bw f sz ty h' y (l++[t])->cz (h.next<=·) y->Fr h h' (fun i=>∃off n,x=.sl i off n)->K (.sl h.next 0 1) y h') :
  db (some (sz,ty,z)) 1 [(0,v0)] h (fun v h4=>dV (some (sz,bytes,ty)) x v h4 W (K v)):=by
 have YB:∀y h',bw f sz ty h' y (l++[t])->cz (h.next<=·) y->(∀i,i<h.next->(∀off n,x≠.sl i off n)->h'.obj i=h.obj i)->h.next<=h'.next->K (.sl h.next 0 1) y h':=fun y h' a b c d=>hK y h' a b ⟨d,fun i hi hs=>c i hi (fun off n he=>hs ⟨off,n,he⟩)⟩
 have jM:dS (fun i=>some (i*sz,sz)) (z.map .sc) [(0,v0)]=some (f t):=by
  simp only[dS,hv,Nat.zero_mul,hf,zZ,hz,zG,zU,and_self,zV]
  rw[mz (by simp[hf,hz])]
 refine⟨f t,⟨jM,h1⟩,?_⟩
 have wA:(l.length+1)*bytes<=140737488355328:=by
  have:(l.length+1)*bytes<=100000001*1024:=Nat.mul_le_mul (by omega) hb
  omega
 have jL:((f t).drop 0).take (1*sz)=f t:=by rw[List.drop_zero,List.take_of_length_le (by rw[hf];omega)]
 rcases hl with⟨rfl,rfl⟩ |⟨id,rfl,ho⟩
 ·refine⟨1,f t,.inr ⟨rfl,_,AH.cK _ _,rfl,by simp[hf],jL.symm⟩,?_⟩
  show if 1=0 then _ else _
  rw[zW (by omega)]
  refine⟨⟨by omega,by simpa using wA⟩,?_⟩
  refine YB _ _ (.inr ⟨_,rfl,?_⟩) ?_ ?_ ?_
  ·rw[AH.cK];simp[aO]
  ·intro i off n he;cases he;simp only[AH.bU];omega
  ·intro i hi _;rw[AH.alloc_old (by simp only[AH.bU];omega),AH.alloc_old hi]
  ·simp only[AH.bU];omega
 ·have hid:=h.lt _ _ ho
  refine⟨1,f t,.inr ⟨rfl,_,AH.cK _ _,rfl,by simp[hf],jL.symm⟩,?_⟩
  show if 1=0 then _ else _
  rw[zW (by omega)]
  have hlen:(l.flatMap f).length=l.length*sz:=fR hf l
  refine⟨rfl,_,⟨hw _ _ _ rfl,by rw[AH.alloc_old hid];exact ho,rfl,rfl,rfl,rfl,by simp[aO,hlen],by omega,wA⟩,?_⟩
  refine YB _ _ (.inr ⟨_,by rw[List.length_append,List.length_singleton],?_⟩) ?_ ?_ ?_
  ·rw[AH.b9,zX (by simp[AH.bU,AH.fU])]
   simp only[aO,List.flatMap_append,List.flatMap_cons,List.flatMap_nil,List.append_nil]
   rw[List.take_of_length_le (by rw[hlen];exact zU _)]
  ·intro i off n he;cases he;simp only[AH.bU];omega
  ·intro i hi cC
   have:i≠id:=fun e=>cC 0 l.length (by rw[e])
   rw[AH.alloc_old (by simp only[AH.bU,AH.fU];omega),AH.rr this,AH.alloc_old hi]
  ·simp only[AH.bU,AH.fU];omega
def TW(T:TypeId->Bool)(n0:Nat)(h:AH)(id:Nat):Prop:=n0<=id/\∃o,h.obj id=some o/\o.ro=false/\T o.ty=true
theorem TW.trans{T:TypeId->Bool}{n0:Nat}{h h1 h2:AH}(a:Fr h h1 (TW T n0 h))(b:Fr h1 h2 (TW T n0 h1)):Fr h h2 (TW T n0 h):=by
 refine⟨zR a.next b.next,fun id eN gp=>?_⟩
 have e1:=a.dA id eN gp
 rw[b.dA id (Nat.lt_of_lt_of_le eN a.next) ?_,e1]
 rintro⟨h3,o,h4,h5⟩
 exact gp ⟨h3,o,by rw[<-e1];exact h4,h5⟩
theorem TW.bJ{T:TypeId->Bool}{n0:Nat}{h h1:AH}(a:Fr h h1 fun _=>False):Fr h h1 (TW T n0 h):=a.mono fun _ h=>h.elim
theorem TW.nk{T:TypeId->Bool}{n0 id:Nat}{h h1:AH}{o:AO}(a:Fr h h1 (·=id))(hn:n0<=id)(ho:h.obj id=some o)(hr:o.ro=false)(ht:T o.ty=true):Fr h h1 (TW T n0 h):=a.mono fun i e=>by subst e;exact⟨hn,o,ho,hr,ht⟩
theorem TW.back{T:TypeId->Bool}{n0:Nat}{h h':AH}(hf:Fr h h' (TW T n0 h)){id:Nat}(hs:TW T n0 h' id):TW T n0 h id\/h.next<=id:=by
 by_cases hl:id<h.next
 ·refine .inl (Classical.byContradiction fun hc=>hc ?_)
  obtain⟨h1,o,h2,h3⟩:=hs
  exact⟨h1,o,by rw[<-hf.dA id hl hc];exact h2,h3⟩
 ·exact .inr (by omega)
theorem TW.no{T:TypeId->Bool}{n0:Nat}{h:AH}{id:Nat}{o:AO}(ho:h.obj id=some o)(h1:o.ro=false->T o.ty=false):¬TW T n0 h id:=by
 rintro⟨_,o',h3,h5,h4⟩
 rw[ho]at h3;cases h3
 rw[h1 h5]at h4;cases h4
theorem TW.obj{T:TypeId->Bool}{n0:Nat}{h h':AH}(hf:Fr h h' (TW T n0 h)){id:Nat}{o:AO}(ho:h.obj id=some o)(h1:T o.ty=false):h'.obj id=some o:=hf.obj ho (TW.no ho fun _=>h1)
theorem cf.wQ{T:TypeId->Bool}{n0:Nat}{α:Type}{f:α->List AV}{sz:Nat}{ty:TypeId}{h h':AH}{x:AV}{l:List α}(hl:cf f sz ty h x l)(hf:Fr h h' (TW T n0 h))(ht:T ty=false):cf f sz ty h' x l:=hl.fr hf fun _ _ ho jF=>TW.no ho fun hr=>by rw[jF hr];exact ht
theorem bw.wQ{T:TypeId->Bool}{n0:Nat}{α:Type}{f:α->List AV}{sz:Nat}{ty:TypeId}{h h':AH}{x:AV}{l:List α}(hl:bw f sz ty h x l)(hf:Fr h h' (TW T n0 h))(ht:T ty=false):bw f sz ty h' x l:=by
 rcases hl with hl |⟨id,h1,h2⟩
 ·exact .inl hl
 ·exact .inr ⟨id,h1,TW.obj hf h2 ht⟩
theorem Fr.Mr{h h1:AH}{S:Nat->Prop}(a:Fr h h1 S){id:Nat}{k:Kind}(hs:S id\/h.next<=id):Fr h (h1.iY id k) S:=a.iY hs
theorem Vu{id:Nat}:cy (.mp id)=some [.mp id]:=rfl
theorem Vs:cy (.sc (.map none))=some [.sc (.map none)]:=rfl
attribute [simp] Vu Vs
end
section
structure Bd where
 P:Program
 N:Nat
 pl:dm
structure Cx where
 W:WK
 R:VK
 N:VK
 E:EK
 P:PK
abbrev GK:=WK->VK->VK->EK->PK->VK->VK
def u0:Code->Code
 |.seq a _ |.cond _ a _ |.block _ a |.loop a |.scope a=>a
 |c=>c
def u1:Code->Code
 |.seq _ b |.cond _ _ b=>b
 |c=>c
def uc:Code->Operand
 |.cond o _ _=>o
 |_=>.tmp 0
def uo:Code->Array Oper
 |.region _ o _=>o
 |_=>#[]
def ui:Code->Nat
 |.region i _ _=>i
 |_=>0
def ud:Code->Bool
 |.region _ _ d=>d
 |_=>false
abbrev TB(B:Bd)(W:WK)(QP:cm)(x:Code)(q:cG)(f:KT):Prop:=aw B.P B.N W B.pl x q QP=f
abbrev RK:=AE->AH->Prop
def fr:Nat->Nat->List (Nat×Bool)
 |_,0=>[]
 |a,n+1=>(a,false)::fr (a+1) n
abbrev OK:=WK->cG->cm->St->AH->Prop
def El:List Nat->WK->Nat->WK
 |[],W=>fun _=>W
 |a::l,W=>CB (a::l) fun _=>W
def Bl(B:Bd)(x:Code):tC:=(rE B.pl (ui x)).getD ⟨[],false,[],[]⟩
def gi(g:Cp):List (Nat×Bool):=(g.head?.map (·.2)).getD []
def gj(g:Cp):Nat:=((g.head?.bind (·.1)).map (·.1)).getD 0
def gw(g:Cp):Bool:=((g.head?.bind (·.1)).map (·.2)).getD false
abbrev TG(B:Bd)(W:WK)(QP:cm)(x:Code)(g:Cp)(K f:KT):Prop:=kW B.P B.N (El (Bl B x).pure W) me QP (uo x) g K=f
section
variable {B:Bd} {W:WK} {QP:cm} {x:Code} {q:cG} {K:KT} {g:Cp}
theorem sq(f:KT)(hb:TB B W QP (u1 x) q K)(e:(x,aw B.P B.N W B.pl (u0 x) (b_ K q) QP)=(.seq (u0 x) (u1 x),f):=by kernel_rfl):TB B W QP x q f:=by
 obtain⟨e1,e2⟩:=Prod.mk.inj e
 unfold TB at *;subst hb;rw[e1];exact e2
theorem sl(f:KT)(e:(x,aw B.P B.N W B.pl (u0 x) (b_ (aw B.P B.N W B.pl (u1 x) q QP) q) QP)=(.seq (u0 x) (u1 x),f):=by kernel_rfl):TB B W QP x q f:=sq f rfl e
theorem sn{f:KT}(hb:TB B W QP (u1 x) q K)(ha:TB B W QP (u0 x) (b_ K q) f)(e:x=.seq (u0 x) (u1 x):=by kernel_rfl):TB B W QP x q f:=by
 unfold TB at *;subst hb;rw[e];exact ha
theorem cd(f:KT){A A':KT}(hA:TB B W QP (u0 x) q A)(hB:TB B W QP (u1 x) q A')(e:(x,fun s h=>aE (lR s (uc x)) (A s h) (A' s h))=(.cond (uc x) (u0 x) (u1 x),f):=by kernel_rfl):TB B W QP x q f:=by
 obtain⟨e1,e2⟩:=Prod.mk.inj e
 unfold TB at *;subst hA hB;rw[e1];exact e2
theorem bk{f:KT}(i:Nat)(ha:TB B W QP (u0 x) (eG i q) f)(e:x=.block i (u0 x):=by kernel_rfl):TB B W QP x q f:=by unfold TB at *;rw[e];exact ha
theorem sp{f:KT}(ha:TB B W QP (u0 x) (pi q) f)(e:x=.scope (u0 x):=by kernel_rfl):TB B W QP x q f:=by unfold TB at *;rw[e];exact ha
theorem sm(f:KT)(e:aw B.P B.N W B.pl x q QP=f:=by kernel_rfl):TB B W QP x q f:=e
theorem tr:TB B W QP x q (aw B.P B.N W B.pl x q QP):=rfl
theorem gr{f:KT}(hr:TG B W QP x (Bl B x).gq (q .normal) f)(e:(x,rE B.pl (ui x))=(.region (ui x) (uo x) (ud x),some ⟨(Bl B x).gq,false,[],(Bl B x).pure⟩):=by kernel_rfl):TB B W QP x q f:=by
 obtain⟨e1,e2⟩:=Prod.mk.inj e
 unfold TB TG at *;subst hr;rw[e1]
 funext s h
 cases hp:(Bl B x).pure with
 |nil=>rw[hp]at e2;rw[LL e2,<-e1,hp];rfl
 |cons a l=>rw[hp]at e2;rw[FU e2,<-e1,hp];rfl
theorem gn(f:KT){C:KT}(hr:TG B W QP x g.tail K C)(e:(g,nu B.P B.N (El (Bl B x).pure W) me QP (uo x) (gi g) C)=((none,gi g)::g.tail,f):=by kernel_rfl):TG B W QP x g K f:=by
 obtain⟨e1,e2⟩:=Prod.mk.inj e
 unfold TG at *;subst hr;rw[e1];exact e2
theorem gl(f:KT)(e:(g,nu B.P B.N (El (Bl B x).pure W) me QP (uo x) (gi g) K)=([(none,gi g)],f):=by kernel_rfl):TG B W QP x g K f:=by
 obtain⟨e,e2⟩:=Prod.mk.inj e
 unfold TG;rw[e];exact e2
theorem gx(f:KT){C:KT}(hr:TG B W QP x g.tail K C)(e:(g,lj (uo x) (gj g),fun s h=>bd (gw g) (s.tm ((lj (uo x) (gj g)).getD 0)) (nu B.P B.N (El (Bl B x).pure W) me QP (uo x) (gi g) C s h) (C (Cy B.N (uo x) (gi g) s) h))=((some (gj g,gw g),gi g)::g.tail,some ((lj (uo x) (gj g)).getD 0),f):=by kernel_rfl):TG B W QP x g K f:=by
 obtain⟨e1,e3⟩:=Prod.mk.inj e
 obtain⟨e2,e4⟩:=Prod.mk.inj e3
 unfold TG at *;subst hr;rw[<-e4];clear e e3 e4
 generalize hd:(lj (uo x) (gj g)).getD 0=d at *
 generalize gj g=j at *
 generalize gw g=w at *
 generalize gi g=i at *
 generalize List.tail g=t at *
 subst e1
 funext s h
 simp only[kW,e2]
theorem gm{C:KT}(hr:TG B W QP x g.tail K C)(e:g=(none,gi g)::g.tail:=by kernel_rfl):TG B W QP x g K (nu B.P B.N (El (Bl B x).pure W) me QP (uo x) (gi g) C):=gn _ hr (Prod.ext e rfl)
theorem lo(f:KT)(e:(x,fun s h=>lb (aw B.P B.N W B.pl (u0 x)) q QP s h)=(.loop (u0 x),f):=by kernel_rfl):TB B W QP x q f:=by
 obtain⟨e,e2⟩:=Prod.mk.inj e
 unfold TB;rw[e];exact e2
variable {c:Cx}
def lk:List (Nat×List Nat)->Nat->List Nat
 |[],_=>[]
 |(i,l)::r,j=>if j=i then l else lk r j
def Kw(L rs:List Nat)(el:List (Nat×List Nat))(c:Cx):cG
 |.normal,s,h=>c.N (L.map s.tm) h
 |.ret,s,h=>c.R (rs.map s.tm) h
 |.exit j,s,h=>c.E j ((lk el j).map s.tm) h
 |.goto _,_,_=>False
structure PQ (R:VK) (rs:List Nat) (el:List (Nat×List Nat)) (E:EK) (q:cG):Prop where
 r:∀s h,q .ret s h=R (rs.map s.tm) h
 e:∀j s h,q (.exit j) s h=E j ((lk el j).map s.tm) h
 g:∀l s h,q (.goto l) s h=False
variable {R:VK} {rs:List Nat} {el:List (Nat×List Nat)} {E:EK}
theorem PQ.b{i:Nat}{l:List Nat}{A:VK}(hr:PQ R rs el E q)(hA:q .normal=fun s h=>A (l.map s.tm) h:=by kernel_rfl):PQ R rs ((i,l)::el) (fun j vs h=>if j=i then A vs h else E j vs h) (eG i q) where
 r:=hr.r
 g:=hr.g
 e:=fun j s h=>by
  simp only[eG,lk]
  split
  ·rw[hA]
  ·exact hr.e j s h
theorem PQ.t(hr:PQ R rs el E q):PQ R rs el E (b_ K q):=⟨hr.r,hr.e,hr.g⟩
theorem PQ.n(hr:PQ R rs el E q):PQ R rs el E (pi q):=⟨hr.r,hr.e,fun _ _ _=>rfl⟩
theorem PQ.o{L:List Nat}:PQ c.R rs el c.E (Kw L rs el c):=⟨fun _ _=>rfl,fun _ _ _=>rfl,fun _ _ _=>rfl⟩
theorem lp{fb:Cx->KT}(L rs:List Nat)(el:List (Nat×List Nat))(f:KT)(G:GK)(E:EK)
  (hq:PQ c.R rs el E q) (hb:∀c:Cx,TB B c.W (kP c.P) (u0 x) (Kw L rs el c) (fb c)) (e:(x,(fun Kn=>fb ⟨c.W,c.R,Kn,E,c.P⟩),f)=(.loop (u0 x),(fun Kn s h=>G c.W c.R c.N c.E c.P Kn (L.map s.tm) h),fun s h=>da (G c.W c.R c.N c.E c.P) (L.map s.tm) h):=by kernel_rfl):TB B c.W (kP c.P) x q f:=by
 obtain⟨e1,e3⟩:=Prod.mk.inj e
 obtain⟨e2,e4⟩:=Prod.mk.inj e3
 subst e4
 unfold TB;rw[e1]
 funext s h
 show lb (aw B.P B.N c.W B.pl (u0 x)) q (kP c.P) s h=_
 refine SO (L:=fun tm=>L.map tm) (G:=G c.W c.R c.N c.E c.P) (fun Kn KQ hK s h=>?_) s h
 have hqq:b_ KQ q=Kw L rs el ⟨c.W,c.R,Kn,E,c.P⟩:=by
  funext z s h
  cases z with
  |normal=>exact hK s h
  |ret=>exact hq.r s h
  |exit j=>exact hq.e j s h
  |goto l=>exact hq.g l s h
 rw[hqq]
 have h1:=congrFun (congrFun (hb ⟨c.W,c.R,Kn,E,c.P⟩) s) h
 have h2:=congrFun (congrFun (congrFun e2 Kn) s) h
 exact h1.trans h2
end
theorem fin{P:Program}{f n:Nat}{L:List Nat}{fn:Func}{rs:List ResultVar}{pl:dm}{args:List AV}{h:AH}{M:Nat->Prop}{R:AE->AH->Prop}(F:Cx->KT)(hm:P.follows .mixedOrders=true)(hf:P.funcs[f]?=some fn)
  (ht:∀c:Cx,TB ⟨P,n,pl⟩ c.W (kP c.P) (fn.body.getD .skip) (Kw L L [] c) (F c))
  (hp:F ⟨fun id=>M id\/h.next<=id,aH P rs R,aH P rs R,fun _ _ _=>False,fun v h=>R (.bV v) h⟩ (s0 args) h) (e:(kA P pl (fn.body.getD .skip)&&sC (fn.body.getD .skip)&&Nat.ble args.length n,fn.body,fn.ntmps,fn.results.toList,rs.map sr)=(true,some (fn.body.getD .skip),n,rs,L):=by kernel_rfl):ay P f args h M R:=by
 obtain⟨e1,e⟩:=Prod.mk.inj e
 obtain⟨e2,e⟩:=Prod.mk.inj e
 obtain⟨e3,e⟩:=Prod.mk.inj e
 obtain⟨e4,e5⟩:=Prod.mk.inj e
 simp only[yC]at e1
 obtain⟨⟨o1,o2⟩,o3⟩:=e1
 subst e3
 refine xe hm hf e2 (Nat.le_of_ble_eq_true o3) o1 ?_
 rw[e4]
 refine Vj (q:=Kw L L [] ⟨fun id=>M id\/h.next<=id,aH P rs R,aH P rs R,fun _ _ _=>False,fun v h=>R (.bV v) h⟩) o2 (fun s h=>?_) (fun s h=>?_) (fun _ _ _ h=>h) (fun _ _ _ h=>h) rfl ?_
 ·show aH P rs R (L.map s.tm) h=_
  rw[<-e5,List.map_map];rfl
 ·show aH P rs R (L.map s.tm) h=_
  rw[<-e5,List.map_map];rfl
 ·have:=congrFun (congrFun (ht ⟨fun id=>M id\/h.next<=id,aH P rs R,aH P rs R,fun _ _ _=>False,fun v h=>R (.bV v) h⟩) (s0 args)) h
  exact Eq.mpr this hp
theorem kI{P:Program}{f n:Nat}{fn:Func}{rs:List ResultVar}{pl:dm}{args:List AV}{h:AH}{M:Nat->Prop}{R:AE->AH->Prop}(F:OK)(hm:P.follows .mixedOrders=true)(hf:P.funcs[f]?=some fn)
  (ht:∀W Q QP,TB ⟨P,n,pl⟩ W QP (fn.body.getD .skip) Q (F W Q QP))
  (hp:F (fun id=>M id\/h.next<=id) (cQ P rs R) (bF R) (s0 args) h) (e:(kA P pl (fn.body.getD .skip)&&Nat.ble args.length n,fn.body,fn.ntmps,fn.results.toList)=(true,some (fn.body.getD .skip),n,rs):=by kernel_rfl):ay P f args h M R:=by
 obtain⟨e1,e⟩:=Prod.mk.inj e
 obtain⟨e2,e⟩:=Prod.mk.inj e
 obtain⟨e3,e4⟩:=Prod.mk.inj e
 simp only[yC]at e1
 obtain⟨o1,o3⟩:=e1
 subst e3
 refine xe hm hf e2 (Nat.le_of_ble_eq_true o3) o1 ?_
 rw[e4]
 exact Eq.mpr (congrFun (congrFun (ht _ _ _) (s0 args)) h) hp
abbrev N0:=WK->VK->VK->EK->PK->AH->Prop
def a0(n:N0)(c:Cx):KT:=fun _ h=>n c.W c.R c.N c.E c.P h
abbrev N1:=WK->VK->VK->EK->PK->AV->AH->Prop
def a1(n:N1)(i0:Nat)(c:Cx):KT:=fun s h=>n c.W c.R c.N c.E c.P (s.tm i0) h
abbrev N2:=WK->VK->VK->EK->PK->AV->AV->AH->Prop
def a2(n:N2)(i0 i1:Nat)(c:Cx):KT:=fun s h=>n c.W c.R c.N c.E c.P (s.tm i0) (s.tm i1) h
abbrev N3:=WK->VK->VK->EK->PK->AV->AV->AV->AH->Prop
def a3(n:N3)(i0 i1 i2:Nat)(c:Cx):KT:=fun s h=>n c.W c.R c.N c.E c.P (s.tm i0) (s.tm i1) (s.tm i2) h
abbrev N4:=WK->VK->VK->EK->PK->AV->AV->AV->AV->AH->Prop
def a4(n:N4)(i0 i1 i2 i3:Nat)(c:Cx):KT:=fun s h=>n c.W c.R c.N c.E c.P (s.tm i0) (s.tm i1) (s.tm i2) (s.tm i3) h
abbrev N5:=WK->VK->VK->EK->PK->AV->AV->AV->AV->AV->AH->Prop
def a5(n:N5)(i0 i1 i2 i3 i4:Nat)(c:Cx):KT:=fun s h=>n c.W c.R c.N c.E c.P (s.tm i0) (s.tm i1) (s.tm i2) (s.tm i3) (s.tm i4) h
abbrev N6:=WK->VK->VK->EK->PK->AV->AV->AV->AV->AV->AV->AH->Prop
def a6(n:N6)(i0 i1 i2 i3 i4 i5:Nat)(c:Cx):KT:=fun s h=>n c.W c.R c.N c.E c.P (s.tm i0) (s.tm i1) (s.tm i2) (s.tm i3) (s.tm i4) (s.tm i5) h
abbrev N7:=WK->VK->VK->EK->PK->AV->AV->AV->AV->AV->AV->AV->AH->Prop
def a7(n:N7)(i0 i1 i2 i3 i4 i5 i6:Nat)(c:Cx):KT:=fun s h=>n c.W c.R c.N c.E c.P (s.tm i0) (s.tm i1) (s.tm i2) (s.tm i3) (s.tm i4) (s.tm i5) (s.tm i6) h
abbrev N8:=WK->VK->VK->EK->PK->AV->AV->AV->AV->AV->AV->AV->AV->AH->Prop
def a8(n:N8)(i0 i1 i2 i3 i4 i5 i6 i7:Nat)(c:Cx):KT:=fun s h=>n c.W c.R c.N c.E c.P (s.tm i0) (s.tm i1) (s.tm i2) (s.tm i3) (s.tm i4) (s.tm i5) (s.tm i6) (s.tm i7) h
abbrev N9:=WK->VK->VK->EK->PK->AV->AV->AV->AV->AV->AV->AV->AV->AV->AH->Prop
def a9(n:N9)(i0 i1 i2 i3 i4 i5 i6 i7 i8:Nat)(c:Cx):KT:=fun s h=>n c.W c.R c.N c.E c.P (s.tm i0) (s.tm i1) (s.tm i2) (s.tm i3) (s.tm i4) (s.tm i5) (s.tm i6) (s.tm i7) (s.tm i8) h
abbrev ua:=WK->VK->VK->EK->PK->AV->AV->AV->AV->AV->AV->AV->AV->AV->AV->AH->Prop
def te(n:ua)(i0 i1 i2 i3 i4 i5 i6 i7 i8 i9:Nat)(c:Cx):KT:=fun s h=>n c.W c.R c.N c.E c.P (s.tm i0) (s.tm i1) (s.tm i2) (s.tm i3) (s.tm i4) (s.tm i5) (s.tm i6) (s.tm i7) (s.tm i8) (s.tm i9) h
abbrev Gh:=WK->VK->VK->EK->PK->AV->AV->AV->AV->AV->AV->AV->AV->AV->AV->AV->AH->Prop
def DE(n:Gh)(i0 i1 i2 i3 i4 i5 i6 i7 i8 i9 i10:Nat)(c:Cx):KT:=fun s h=>n c.W c.R c.N c.E c.P (s.tm i0) (s.tm i1) (s.tm i2) (s.tm i3) (s.tm i4) (s.tm i5) (s.tm i6) (s.tm i7) (s.tm i8) (s.tm i9) (s.tm i10) h
abbrev HP:=WK->VK->VK->EK->PK->AV->AV->AV->AV->AV->AV->AV->AV->AV->AV->AV->AV->AH->Prop
def a12(n:HP)(i0 i1 i2 i3 i4 i5 i6 i7 i8 i9 i10 i11:Nat)(c:Cx):KT:=fun s h=>n c.W c.R c.N c.E c.P (s.tm i0) (s.tm i1) (s.tm i2) (s.tm i3) (s.tm i4) (s.tm i5) (s.tm i6) (s.tm i7) (s.tm i8) (s.tm i9) (s.tm i10) (s.tm i11) h
abbrev YX:=WK->VK->VK->EK->PK->AV->AV->AV->AV->AV->AV->AV->AV->AV->AV->AV->AV->AV->AH->Prop
def a13(n:YX)(i0 i1 i2 i3 i4 i5 i6 i7 i8 i9 i10 i11 i12:Nat)(c:Cx):KT:=fun s h=>n c.W c.R c.N c.E c.P (s.tm i0) (s.tm i1) (s.tm i2) (s.tm i3) (s.tm i4) (s.tm i5) (s.tm i6) (s.tm i7) (s.tm i8) (s.tm i9) (s.tm i10) (s.tm i11) (s.tm i12) h
abbrev N20:=WK->VK->VK->EK->PK->AV->AV->AV->AV->AV->AV->AV->AV->AV->AV->AV->AV->AV->AV->AV->AV->AV->AV->AV->AV->AH->Prop
def a20(n:N20)(i0 i1 i2 i3 i4 i5 i6 i7 i8 i9 i10 i11 i12 i13 i14 i15 i16 i17 i18 i19:Nat)(c:Cx):KT:=fun s h=>n c.W c.R c.N c.E c.P (s.tm i0) (s.tm i1) (s.tm i2) (s.tm i3) (s.tm i4) (s.tm i5) (s.tm i6) (s.tm i7) (s.tm i8) (s.tm i9) (s.tm i10) (s.tm i11) (s.tm i12) (s.tm i13) (s.tm i14) (s.tm i15) (s.tm i16) (s.tm i17) (s.tm i18) (s.tm i19) h
end
end Go.Ab
