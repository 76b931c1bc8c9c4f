/- Regions, code and calls over the table are sound; short ways to use them; bodies told straight; maps; slices that hold lists. No condition. -/
import Derived.LoopN
import Derived.Scope
import Derived.Test.YtjehibknlmehmaaAb1
set_option maxRecDepth 100000
namespace Go.Ab
section
variable {P:Program} {E:Env}
def m_(P:Program)(pu:List Nat)(ops:Array Oper)(B:List Nat)(listed:Array Bool)(x:Nat×Bool):Bool:=
 match ops[x.1]? with
 |none=>false
 |some oi=>
  if sL oi.op then
   (Region.ready .any ops listed).contains x.1 &&
   (List.range ops.size).all fun j=>j==x.1||listed.getD j true||(B.getD j 0).testBit x.1 ||
    (match ops[j]? with |some oj=>oi.apart ops oj&&(!nk P oi.op||sL oj.op||(match x.2 with |true=>true |false=>E4 oj.op||pu.contains j)) |none=>true)
  else Region.ready .any ops listed==[x.1]
def q_(P:Program)(pu:List Nat)(ops:Array Oper)(B:List Nat):List (Nat×Bool)->Array Bool->Bool
 |[],_=>true
 |x::rest,listed=>m_ P pu ops B listed x&&q_ P pu ops B rest (listed.setIfInBounds x.1 true)
def hH(order:List (Nat×Bool))(listed:Array Bool):Array Bool:=order.foldl (fun l x=>l.setIfInBounds x.1 true) listed
def il(ops:Array Oper)(j:Nat):Option Nat:=(ops[j]?).bind (·.dst)
def nE(ops:Array Oper)(g:Option (Nat×Bool)×List (Nat×Bool)):Bool:=
 g.2.all fun x=>match ops[x.1]? with
  |some o=>o.guard==g.1&&(match g.1 with |none=>true |some (j,_)=>(match il ops j with |some d=>o.dst != some d |none=>false))
  |none=>false
inductive Way where
 |mk (path:List (Nat×Bool)) (next:List Way)
def Way.path:Way->List (Nat×Bool)
 |.mk p _=>p
mutual
def Way.DS:Way->List (Nat×Bool)
 |.mk p ws=>p++oH ws
def oH:List Way->List (Nat×Bool)
 |[]=>[]
 |w::r=>w.DS++oH r
end
structure tE where
 gP:List (Option (Nat×Bool)×List (Nat×Bool))
 held:Bool
 alts:List Way
 pure:List Nat
def jh(p:tE):List Nat:=((p.gP.flatMap (·.2)++oH p.alts).filter (·.2)).map (·.1)
def CC(B hl:List Nat)(j i:Nat):Bool:=hl.contains i&&!(B.getD j 0).testBit i
def AL(ops:Array Oper)(j:Nat):Bool:=match ops[j]? with |some o=>sL o.op |none=>false
def vm(ops:Array Oper)(C:Nat->Nat->Bool)(order:List (Nat×Bool))(k i:Nat):Bool:=(order.take k).all fun x=>AL ops x.1||C x.1 i
def uF(ops:Array Oper)(hl:List Nat)(C:Nat->Nat->Bool)(order:List (Nat×Bool)):Bool:=
 (List.range order.length).all fun k=>match order[k]? with
  |some x=>(!x.2||vm ops C order k x.1)&&(AL ops x.1||hl.all fun i=>!C x.1 i||vm ops C order k i)
  |none=>false
def kd(ws:List Way):List Nat:=ws.map fun w=>(w.path.head?.map (·.1)).getD 0
mutual
def xL(P:Program)(pu:List Nat)(ops:Array Oper)(B hl:List Nat):Way->List (Nat×Bool)->Array Bool->Bool
 |.mk path ws,order,listed=>(match path with
   |[]=>false
   |x::rest=>(match ops[x.1]? with |some o=>!sL o.op |none=>false)&&q_ P pu ops B rest (listed.setIfInBounds x.1 true)) &&
   nE ops (none,path)&&Nat.ble (order.length+path.length) ops.size&&uF ops hl (CC B hl) (order++path) &&
   Region.ready .any ops (hH path listed)==kd ws&&(!ws.isEmpty||order.length+path.length==ops.size)&&pT P pu ops B hl ws (order++path) (hH path listed)
def pT(P:Program)(pu:List Nat)(ops:Array Oper)(B hl:List Nat):List Way->List (Nat×Bool)->Array Bool->Bool
 |[],_,_=>true
 |w::r,order,listed=>xL P pu ops B hl w order listed&&pT P pu ops B hl r order listed
end
def EP(P:Program)(ops:Array Oper)(draw:Bool)(p:tE):Bool:=
 let order:=p.gP.flatMap (·.2)
 p.gP.all (nE ops) &&
 match draw with
 |false=>order==(List.range ops.size).map (fun i=>(i,false))&&p.alts.isEmpty
 |true=>
  let B:=i_ .any ops
  let listed:=hH order (Array.replicate ops.size false)
  q_ P p.pure ops B order (Array.replicate ops.size false)&&uF ops (jh p) (CC B (jh p)) order&&Region.noSelect ops&&Region.ready .any ops listed==kd p.alts &&
   (if p.alts.isEmpty then order.length==ops.size else pT P p.pure ops B (jh p) p.alts order listed)
abbrev eS:=List (Nat×tE)
def rD:eS->Nat->Option tE
 |[],_=>none
 |x::r,id=>if x.1=id then some x.2 else rD r id
def jt(n:Nat):List (Nat×Bool):=(List.range n).map fun i=>(i,false)
def z_(P:Program)(pl:eS)(id:Nat)(ops:Array Oper)(draw:Bool):Bool:=
 match rD pl id with
 |some p=>EP P ops draw p
 |none=>!draw&&nE ops (none,jt ops.size)
def kM(P:Program)(pl:eS):Code->Bool
 |.region id ops draw=>z_ P pl id ops draw
 |.seq a b |.cond _ a b=>kM P pl a&&kM P pl b
 |.block _ c |.loop c |.scope c=>kM P pl c
 |_=>true
def eQ(held:Bool)(Hd:Nat->Prop)(d:Option Nat)(k:Prop):Prop:=
 match held with
 |false=>k
 |true=>(match d with |some id=>Hd id |none=>False)/\k
def qZ(P:Program)(N:Nat)(W Hd:Nat->Prop)(QP:List fR->AV->AH->Prop)(held:Bool)(o:Oper)(K:St->AH->Prop)(s:St)(h:AH):Prop:=
 match sL o.op with
 |true=>qOp P o.op (l8 s) h fun v d=>eQ held Hd d (K (s.put N o.dst v) h)
 |false=>uk P W o.op (l8 s) s.ds h (fun v nW h'=>K (({ s with ds:=nW }:St).put N o.dst v) h') (QP s.ds)
def mu(P:Program)(N:Nat)(W:Nat->Nat->Prop)(Hd:Nat->Nat->Prop)(QP:List fR->AV->AH->Prop)(ops:Array Oper):List (Nat×Bool)->(St->AH->Prop)->St->AH->Prop
 |[],K,s,h=>K s h
 |x::rest,K,s,h=>match ops[x.1]? with
  |some o=>qZ P N (W x.1) (Hd x.1) QP x.2 o (mu P N W Hd QP ops rest K) s h
  |none=>False
def ym(N:Nat)(ops:Array Oper):List (Nat×Bool)->St->St
 |[],s=>s
 |x::rest,s=>ym N ops rest (s.put N (il ops x.1) aa)
def aH(x:AV)(a b:Prop):Prop:=
 match x with
 |.sc (.bool t)=>(t=true->a)/\(t=false->b)
 |_=>False
def bF(want:Bool)(x:AV)(a b:Prop):Prop:=
 match x with
 |.sc (.bool t)=>(t=want->a)/\(t=(!want)->b)
 |.sc (.tuple _)=>b
 |_=>False
def kX(P:Program)(N:Nat)(W:Nat->Nat->Prop)(Hd:Nat->Nat->Prop)(QP:List fR->AV->AH->Prop)(ops:Array Oper):List (Option (Nat×Bool)×List (Nat×Bool))->(St->AH->Prop)->St->AH->Prop
 |[],K,s,h=>K s h
 |(none,is)::rest,K,s,h=>mu P N W Hd QP ops is (kX P N W Hd QP ops rest K) s h
 |(some (j,want),is)::rest,K,s,h=>match il ops j with
  |some d=>bF want (s.tm d) (mu P N W Hd QP ops is (kX P N W Hd QP ops rest K) s h) (kX P N W Hd QP ops rest K (ym N ops is s) h)
  |none=>False
def kN:Nat->Nat->Prop:=fun _ _=>False
mutual
def xl(P:Program)(N:Nat)(W:Nat->Nat->Prop)(Hd:Nat->Nat->Prop)(QP:List fR->AV->AH->Prop)(ops:Array Oper):Way->(St->AH->Prop)->St->AH->Prop
 |.mk path ws,K,s,h=>mu P N W Hd QP ops path (match ws with
   |[]=>K
   |_::_=>fun s h=>nI P N W Hd QP ops ws K s h) s h
def nI(P:Program)(N:Nat)(W:Nat->Nat->Prop)(Hd:Nat->Nat->Prop)(QP:List fR->AV->AH->Prop)(ops:Array Oper):List Way->(St->AH->Prop)->St->AH->Prop
 |[],_,_,_=>True
 |w::r,K,s,h=>xl P N W Hd QP ops w K s h/\nI P N W Hd QP ops r K s h
end
def sZ(P:Program)(N:Nat)(W:Nat->Nat->Prop)(Hd:Nat->Nat->Prop)(QP:List fR->AV->AH->Prop)(ops:Array Oper)(p:tE)(K:St->AH->Prop)(s:St)(h:AH):Prop:=
 match p.alts with
 |[]=>kX P N W Hd QP ops p.gP K s h
 |alts=>kX P N W Hd QP ops p.gP (nI P N W Hd QP ops alts K) s h
abbrev oY:Nat->Prop:=fun _=>False
def CY(pu:List Nat)(W:Nat->Nat->Prop)(j:Nat):Nat->Prop:=match pu.contains j with
 |true=>oY
 |false=>W j
abbrev h_(W:Nat->Prop)(Hd:Nat->Nat)(l:List Nat):Nat->Prop:=fun id=>W id/\∀i∈l,id≠Hd i
def VU(W:Nat->Prop)(Hd:Nat->Nat):List Nat->Nat->Prop
 |[]=>W
 |i::l=>h_ W Hd (i::l)
theorem HS{W:Nat->Prop}{Hd:Nat->Nat}:∀{l:List Nat}{id:Nat},VU W Hd l id->W id/\∀i∈l,id≠Hd i
 |[],_,h=>⟨h,fun _ h=>by simp at h⟩
 |_::_,_,h=>h
def abT(W:Nat->Prop)(Hd:Nat->Nat)(B hl:List Nat)(j:Nat):Nat->Prop:=VU W Hd (hl.filter fun i=>!(B.getD j 0).testBit i)
def lc(P:Program)(N:Nat)(W:Nat->Prop)(QP:List fR->AV->AH->Prop)(pl:eS)(id:Nat)(ops:Array Oper)(K:St->AH->Prop)(s:St)(h:AH):Prop:=
 match rD pl id with
 |none=>mu P N (fun _=>W) kN QP ops (jt ops.size) K s h
 |some p=>match p.held with
  |false=>sZ P N (CY p.pure fun _=>W) kN QP ops p K s h
  |true=>∃Hd:Nat->Nat,(∀i∈jh p,h.obj (Hd i)≠none)/\sZ P N (CY p.pure (abT W Hd (i_ .any ops) (jh p))) (fun i id=>id=Hd i) QP ops p K s h
def ko(Hd:Nat->Prop)(E0:Env)(h0:AH)(w0 w:World):Prop:=∀id B,Hd id->h0.obj id≠none->E0 id=some B->w.heap[B.b]?=w0.heap[B.b]?
def TT(P:Program)(S:World->Prop)(o:Oper)(held:Bool)(w0:World):World->Prop:=fun w=>nk P o.op=true->if held then S w else gW w0 w
structure L_ (P:Program) (ops:Array Oper) (Q:Exit->Act->World->Prop) (C:Nat->Nat->Bool) (S:Nat->World->Prop) (pu:Nat->Bool) (order:List (Nat×Bool)) (k1:Nat) (D:Nat->Act->World->Prop):Prop where
 quiet:∀k i held o v a w,k1<=k->order[k]?=some (i,held)->ops[i]?=some o->sL o.op=true->Yq P ops (TT P (S i) o held w) o v a->(held=true->S i w)->D (k+1) (a.put o.dst v) w->D k a w
 F0:∀k i held o a w,k1<=k->order[k]?=some (i,held)->ops[i]?=some o->sL o.op=false->wpOp P ops Q i (fun a' w'=>((∀l,C i l=true->S l w')/\(E4 o.op=true\/pu i=true->gW w w'))/\D (k+1) a' w') a w->D k a w
section
variable {N:Nat} {W:Nat->Prop} {QP:List fR->AV->AH->Prop} {ops:Array Oper} {Q:Exit->Act->World->Prop} {order:List (Nat×Bool)} {D:Nat->Act->World->Prop}
 {E0:Env} {h0:AH} {w0:World}
def VL:Value->Option Bool
 |.bool b=>some b
 |_=>none
def xI(ops:Array Oper)(g:Option (Nat×Bool))(pM:Bool)(s:St):Prop:=
 match g with
 |none=>pM=true
 |some (j,want)=>∃d,il ops j=some d/\(s.tm d=.sc (.bool (if pM then want else !want))\/pM=false/\∃l,s.tm d=.sc (.tuple l))
theorem CI{g:Option (Nat×Bool)}{pM:Bool}{s:St}{a:Act}{E:Env}(hg:xI ops g pM s)(ha:AR E N s a){o:Oper}(ho:o.guard=g):Region.wanted o (yielded ops a.tmps)=pM:=by
 unfold Region.wanted
 rw[ho]
 cases g with
 |none=>exact hg.symm
 |some g=>
  obtain⟨j,want⟩:=g
  obtain⟨d,hd,hs⟩:=hg
  have h1:=ha.tm d
  unfold il at hd
  have hy:yielded ops a.tmps j=VL (a.tmps.getD d undef):=by
   unfold yielded
   simp only[hd]
   rw[Array.getD_eq_getD_getElem?]
   show(match a.tmps[d]? with |some (.bool b)=>some b |_=>none)=_
   generalize a.tmps[d]?=y
   cases y with
   |none=>rfl
   |some v=>cases v<;>rfl
  show(yielded ops a.tmps j==some want)=pM
  rw[hy]
  rcases hs with hs |⟨Nd,l,hs⟩
  ·rw[hs]at h1
   have h2:a.tmps.getD d undef=.bool (if pM then want else !want):=by
    generalize a.tmps.getD d undef=v at h1
    cases h1;rfl
   rw[h2]
   cases pM<;>cases want<;>rfl
  ·rw[hs]at h1
   have h2:a.tmps.getD d undef=.tuple l:=by
    generalize a.tmps.getD d undef=v at h1
    cases h1;rfl
   rw[h2,Nd];rfl
def OA(ops:Array Oper)(g:Option (Nat×Bool))(dst:Option Nat):Prop:=∀j want d,g=some (j,want)->il ops j=some d->dst≠some d
theorem xI.put{g:Option (Nat×Bool)}{pM:Bool}{s:St}(hg:xI ops g pM s){dst:Option Nat}(hd:OA ops g dst)(v:AV)(ds:List fR) :
  xI ops g pM (({ s with ds:=ds }:St).put N dst v):=by
 cases g with
 |none=>exact hg
 |some g=>
  obtain⟨j,want⟩:=g
  obtain⟨d,h1,h2⟩:=hg
  refine⟨d,h1,?_⟩
  have h3:=hd j want d rfl h1
  have ft:∀(P:AV->Prop),P (s.tm d)->P (({ s with ds:=ds }:St).put N dst v |>.tm d):=by
   intro P hP
   cases dst with
   |none=>exact hP
   |some e=>
    simp only[St.put]
    split
    ·simp only[fk]
     rw[zW (fun h=>h3 (by rw[h]))]
     exact hP
    ·exact hP
  exact ft (fun x=>x=.sc (.bool (if pM then want else !want))\/pM=false/\∃l,x=.sc (.tuple l)) h2
theorem AR.nW{E:Env}{s:St}{a:Act}(h:AR E N s a):({ s with ds:=s.ds }:St)=s:=rfl
end
end
section
variable {P:Program} {N:Nat} {W:Nat->Prop} {Hd:Nat->Nat->Prop} {QP:List fR->AV->AH->Prop} {ops:Array Oper} {Q:Exit->Act->World->Prop} {order:List (Nat×Bool)} {D:Nat->Act->World->Prop}
 {E0:Env} {h0:AH} {w0:World}
structure H9 (P:Program) (N:Nat) (ops:Array Oper) (hl:List Nat) (C:Nat->Nat->Bool) (pu:Nat->Bool) (order:List (Nat×Bool)) (W:Nat->Prop) (Wf:Nat->Nat->Prop) (Hd:Nat->Nat->Prop) (QP:List fR->AV->AH->Prop) (Q:Exit->Act->World->Prop) (E0:Env) (h0:AH) (w0:World):Prop where
 rel:Rel E0 h0 w0
 hd:∀i id,hl.contains i=true->Hd i id->h0.obj id≠none
 w:∀j i id,C j i=true->Hd i id->¬Wf j id
 wf:∀j id,Wf j id->W id
 pw:∀j id,pu j=true->¬Wf j id
 hc:∀j i,C j i=true->hl.contains i=true
 hh:∀(k:Nat)(x:Nat×Bool),order[k]?=some x->x.2=true->hl.contains x.1=true
 ord:uF ops hl C order=true
 cg:∀v E' h' w' u a ds,Step E0 h0 W w0 E' h' w'->VR E' v u->BY E' ds a.defers->QP ds v h'->Q (.panic [{ v:=u,recovered:=false }]) a w'
theorem uE{C:Nat->Nat->Bool}{k i:Nat}{x:Nat×Bool}(hk:order[k]?=some x):vm ops C order (k+1) i=(vm ops C order k i&&(AL ops x.1||C x.1 i)):=by
 unfold vm
 rw[List.take_add_one,hk]
 simp
theorem Cg{hl:List Nat}{C:Nat->Nat->Bool}(h:uF ops hl C order=true){k:Nat}{x:Nat×Bool}(hk:order[k]?=some x){o:Oper}(ho:ops[x.1]?=some o) :
  (x.2=true->vm ops C order k x.1=true)/\(sL o.op=false->∀i,hl.contains i=true->C x.1 i=true->vm ops C order k i=true):=by
 unfold uF at h
 rw[List.all_eq_true]at h
 have:=h k (List.mem_range.2 (zM.1 hk).1)
 rw[hk]at this
 simp only[yC,Bool.or_eq_true,Bool.not_eq_true',List.all_eq_true]at this
 refine⟨fun hx=>?_,fun hq i hi hc=>?_⟩
 ·rcases this.1 with h1 |h1
  ·rw[hx]at h1;cases h1
  ·exact h1
 ·rcases this.2 with h1 |h1
  ·unfold AL at h1;rw[ho]at h1;simp only at h1;rw[hq]at h1;cases h1
  ·rcases h1 i (by simpa using hi) with h2 |h2
   ·rw[hc]at h2;cases h2
   ·exact h2
def HI(ops:Array Oper)(hl:List Nat)(C:Nat->Nat->Bool)(order:List (Nat×Bool))(Hd:Nat->Nat->Prop)(E0:Env)(h0:AH)(w0:World)(k:Nat)(h:AH)(w:World):Prop:=
 ∀i,hl.contains i=true->vm ops C order k i=true->∀id,Hd i id->h.obj id=h0.obj id/\∀B,E0 id=some B->w.heap[B.b]?=w0.heap[B.b]?
theorem HI.start{hl:List Nat}{C:Nat->Nat->Bool}{k:Nat}:HI ops hl C order Hd E0 h0 w0 k h0 w0:=fun _ _ _ _ _=>⟨rfl,fun _ _=>rfl⟩
theorem HI.next{hl:List Nat}{C:Nat->Nat->Bool}{k:Nat}{h:AH}{w:World}(hi:HI ops hl C order Hd E0 h0 w0 k h w){x:Nat×Bool}(hk:order[k]?=some x):HI ops hl C order Hd E0 h0 w0 (k+1) h w:=fun i h1 h2=>by
 rw[uE hk,yC]at h2
 exact hi i h1 h2.1
theorem HI.held{hl:List Nat}{C:Nat->Nat->Bool}{k:Nat}{h:AH}{w:World}(hi:HI ops hl C order Hd E0 h0 w0 k h w){i:Nat}(h1:hl.contains i=true)(h2:vm ops C order k i=true):ko (Hd i) E0 h0 w0 w:=fun id B h3 _ h5=>(hi i h1 h2 id h3).2 B h5
theorem HI.F0{hl:List Nat}{C:Nat->Nat->Bool}{pu:Nat->Bool}{Wf:Nat->Nat->Prop}(cx:H9 P N ops hl C pu order W Wf Hd QP Q E0 h0 w0){k:Nat}{E E':Env}{h h':AH}{w w':World}(hi:HI ops hl C order Hd E0 h0 w0 k h w)(hs:Step E0 h0 W w0 E h w){x:Nat×Bool}(hk:order[k]?=some x)(hq:AL ops x.1=false)
  (h1:Step E h (Wf x.1) w E' h' w'):HI ops hl C order Hd E0 h0 w0 (k+1) h' w':=by
 intro i hc hp id hd
 rw[uE hk,yC,hq,Bool.false_or]at hp
 obtain⟨e1,e2⟩:=hi i hc hp.1 id hd
 have du:=cx.hd i id hc hd
 have X7:=cx.w x.1 i id hp.2 hd
 have Cv:h.obj id≠none:=by rw[e1];exact du
 refine⟨by rw[h1.dH id (AH.Ko Cv) X7,e1],fun B hB=>?_⟩
 have dG:=hs.env id B hB
 cases ho:h.obj id with
 |none=>exact absurd ho Cv
 |some o=>
  obtain⟨B2,K3,hO⟩:=hs.rel.obj id o ho
  rw[dG]at K3;cases K3
  rw[<-e2 B hB]
  refine h1.frame B.b hO.lt ?_
  intro o8 B' o' iw eO ZV hE' lJ
  rcases hs.rel.inj o8 id o' o B' B eO ho hE' dG lJ with this |this
  ·subst this
   exact X7 iw
  ·rw[ZV]at this;cases this.1
theorem Rc{op:Op}{ρ:Operand->AV}{h:AH}{K:AV->Option Nat->Prop}(hp:qOp P op ρ h K):qOp P op ρ h (fun v d=>K v d/\∀id,d=some id->h.obj id≠none):=by
 cases hl:nk P op with
 |false=>exact qOp_mono (fun v d h1 h2=>⟨h2,fun id e=>by rw[h1 hl]at e;cases e⟩) hp
 |true=>
  cases op<;>simp only[nk,zE]at hl
  case convert s d x=>
   simp only[qOp,hl]at hp ⊢
   unfold zy at hp ⊢
   split at hp
   ·obtain⟨o,l,⟨h1,h2,h3⟩,h4⟩:=hp
    exact⟨o,l,⟨h1,h2,h3⟩,h4,fun id e=>by cases e;rw[h1];simp⟩
   ·exact hp.elim
  case lookup t m x ok=>
   simp only[qOp]at hp ⊢
   unfold gH at hp ⊢
   split at hp
   ·obtain⟨o,l,⟨h1,h2⟩,h3⟩:=hp
    exact⟨o,l,⟨h1,h2⟩,qS (fun v hv=>⟨hv,fun id e=>by cases e;rw[h1];simp⟩) h3⟩
   ·exact qS (fun v hv=>⟨hv,fun id e=>by cases e⟩) hp
   ·exact hp.elim
  simp only[qOp]at hp ⊢
  unfold al at hp ⊢
  split at hp
  ·obtain⟨o,c,⟨h1,h2,h3⟩,h4⟩:=hp
   exact⟨o,c,⟨h1,h2,h3⟩,h4,fun id e=>by cases e;rw[h1];simp⟩
  ·obtain⟨o,⟨h1,h2,h3⟩,h4⟩:=hp
   exact⟨o,⟨h1,h2,h3⟩,h4,fun id e=>by cases e;rw[h1];simp⟩
  ·exact hp.elim
theorem I1{op:Op}(hA:E4 op=true){ρ:Operand->AV}{ds:List fR}{h:AH}{K:AV->List fR->AH->Prop}{KP:AV->AH->Prop}(hp:uk P W op ρ ds h K KP):uk P (fun _=>False) op ρ ds h K KP:=by
 cases op<;>simp only[E4,zE]at hA<;>first |exact hp |(rename_i t r;cases r<;>first |exact hp |exact hp.elim)
theorem HJ{E:Env}{w:World}{s:St}{a:Act}{h:AH}{K:AV->List fR->AH->Prop}{KP:AV->AH->Prop}(o:Oper)(hr:Rel E h w)(ha:AR E N s a)
  (hp:uk P W o.op (l8 s) s.ds h K KP) {next:Act->World->Prop} {Q:Exit->Act->World->Prop}
  (hn:∀v nW E' h' w' a',Step E h W w E' h' w'->(E4 o.op=true\/(∀id,¬W id)->gW w w')->AR E' N (({ s with ds:=nW }:St).put N o.dst v) a'->K v nW h'->next a' w')
  (hq:∀v E' h' w' u,Step E h W w E' h' w'->VR E' v u->KP v h'->Q (.panic [{ v:=u,recovered:=false }]) a w'):o.wp P a w next Q:=by
 by_cases hA:E4 o.op=true
 ·refine F1 o hr ha (I1 hA hp) ?_ ?_
  ·intro v nW E' h' w' a' h1 h2 h3
   exact hn v nW E' h' w' a' ((Step.refl hr).trans hr h1 (fun id _ hm=>hm.elim)) (fun _ b hb=>h1.frame b hb fun _ _ _ hm=>hm.elim) h2 h3
  ·intro v E' h' w' u h1 h2 h3
   exact hq v E' h' w' u ((Step.refl hr).trans hr h1 (fun id _ hm=>hm.elim)) h2 h3
 ·exact F1 o hr ha hp (fun v nW E' h' w' a' h1 h2 h3=>hn v nW E' h' w' a' h1 (fun h=>h.elim (fun h=>absurd h hA) fun hn b hb=>h1.frame b hb fun id _ _ hm=>absurd hm (hn id)) h2 h3) hq
theorem BK{hl:List Nat}{C:Nat->Nat->Bool}{pu:Nat->Bool}{Wf:Nat->Nat->Prop}(cx:H9 P N ops hl C pu order W Wf Hd QP Q E0 h0 w0){k1:Nat}(dv:L_ P ops Q C (fun i=>ko (Hd i) E0 h0 w0) pu order k1 D)(g:Option (Nat×Bool)){K:St->AH->Prop} :
  ∀(is:List (Nat×Bool))(k:Nat)(s:St)(a:Act)(E:Env)(h:AH)(w:World),k1<=k->(∀m x,is[m]?=some x->order[k+m]?=some x)->nE ops (g,is)=true->xI ops g true s ->
   Step E0 h0 W w0 E h w->HI ops hl C order Hd E0 h0 w0 k h w->AR E N s a->mu P N Wf Hd QP ops is K s h ->
   (∀s' a' E' h' w',Step E0 h0 W w0 E' h' w'->HI ops hl C order Hd E0 h0 w0 (k+is.length) h' w'->AR E' N s' a'->K s' h'->D (k+is.length) a' w')->D k a w
 |[],k,s,a,E,h,w,_,_,_,_,hs,hI,ha,he,hK=>hK s a E h w hs hI ha he
 |x::is,k,s,a,E,h,w,sQ,ho,hg,hi,hs,hI,ha,he,hK=>by
  obtain⟨i,held⟩:=x
  have hk:order[k]?=some (i,held):=by simpa using ho 0 (i,held) rfl
  simp only[mu]at he
  split at he
  ·rename_i o jE
   simp only[nE,List.all_cons,jE,yC]at hg
   obtain⟨⟨Ho,kC⟩,Qe⟩:=hg
   have Ft:o.guard=g:=by simpa using Ho
   have IV:OA ops g o.dst:=by
    intro j want d ll hd
    subst ll
    simp only[hd]at kC
    simpa using kC
   have uN:=CI hi ha Ft
   have Bg:∀m x,is[m]?=some x->order[k+1+m]?=some x:=fun m x hm=>by
    have:=ho (m+1) x (by simpa using hm)
    rw[show k+1+m=k+(m+1) from by omega];exact this
   have uP:=Cg cx.ord hk jE
   have Qr:held=true->ko (Hd i) E0 h0 w0 w:=fun hp=>hI.held (cx.hh k _ hk hp) (uP.1 hp)
   have Va:=hI.next hk
   have Yp:∀s' a' E' h' w',Step E0 h0 W w0 E' h' w'->HI ops hl C order Hd E0 h0 w0 (k+1+is.length) h' w'->AR E' N s' a'->K s' h'->D (k+1+is.length) a' w':=fun s' a' E' h' w' h1 t_ h2 h3=>by
    rw[show k+1+is.length=k+(is.length+1) from by omega]at t_ ⊢
    exact hK s' a' E' h' w' h1 t_ h2 h3
   unfold qZ at he
   split at he
   ·rename_i hq
    have pc:=qOp_mono (K':=fun v d=>(nk P o.op=false->d=none)/\eQ held (Hd i) d (mu P N Wf Hd QP ops is K (s.put N o.dst v) h)/\∀id,d=some id->h.obj id≠none) (fun v d h1 h2=>⟨h1,h2⟩) (Rc he)
    obtain⟨av,u,d,hv,⟨Dq,qD,hd4⟩,hd3,gD⟩:=JQ o hs.rel ha pc
    have ie:mu P N Wf Hd QP ops is K (s.put N o.dst av) h:=by
     unfold eQ at qD
     split at qD
     ·exact qD
     ·exact qD.2
    refine dv.quiet k i held o u a w sQ hk jE hq (.inl ⟨uN,fun w' iw=>gD w' ?_⟩) Qr ?_
    ·intro id B Ql hB
     cases hl:nk P o.op with
     |false=>rw[Dq hl]at Ql;cases Ql
     |true=>
      cases held with
      |false=>
       have iw:gW w w':=by simpa using iw hl
       have kB:=hd4 id Ql
       cases ho:h.obj id with
       |none=>exact absurd ho kB
       |some o2=>
        obtain⟨B2,K3,hO2⟩:=hs.rel.obj id o2 ho
        rw[hB]at K3;cases K3
        exact iw B.b hO2.lt
      |true=>
       have hS:=Qr rfl
       have iw:ko (Hd i) E0 h0 w0 w':=by simpa using iw hl
       simp only[eQ,Ql]at qD
       have Fl:=cx.hd i id (cx.hh k _ hk rfl) qD.1
       obtain⟨B0,ig⟩:=cx.rel.Vx Fl
       have:=hs.env id B0 ig
       rw[hB]at this;cases this
       rw[iw id B qD.1 Fl ig,hS id B qD.1 Fl ig]
    ·exact BK cx dv g is (k+1) _ _ E h w (by omega) Bg Qe (by simpa using hi.put IV av s.ds) hs Va (ha.put _ hv) ie Yp
   ·rename_i hq
    refine dv.F0 k i held o a w sQ hk jE hq ?_
    unfold wpOp
    simp only[jE,uN,zV]
    have iS:sL o.op=false:=by simpa using hq
    have Hl:AL ops i=false:=by unfold AL;rw[jE];exact iS
    refine .inl (HJ o hs.rel ha he ?_ ?_)
    ·intro v nW E' h' w' a' h1 hA h2 h3
     have Be:=hs.trans cx.rel h1 (fun id _ hm=>.inl (cx.wf i id hm))
     have K1:=HI.F0 cx hI hs hk Hl h1
     refine⟨⟨fun l hc=>?_,fun hh=>hA (hh.imp (fun h=>h) fun hp id hw=>cx.pw i id hp hw)⟩,BK cx dv g is (k+1) _ _ E' h' w' (by omega) Bg Qe (hi.put IV v nW) Be K1 h2 h3 Yp⟩
     have nt:=cx.hc i l hc
     exact K1.held nt (by rw[uE hk,uP.2 iS l nt hc,hc,Bool.or_true];rfl)
    ·intro v E' h' w' u h1 h2 h3
     exact cx.cg v E' h' w' u a s.ds (hs.trans cx.rel h1 (fun id _ hm=>.inl (cx.wf i id hm))) h2 (ha.ds.mono h1.env) h3
  ·exact he.elim
theorem JG{hl:List Nat}{C:Nat->Nat->Bool}{pu:Nat->Bool}{Wf:Nat->Nat->Prop}(cx:H9 P N ops hl C pu order W Wf Hd QP Q E0 h0 w0){k1:Nat}(dv:L_ P ops Q C (fun i=>ko (Hd i) E0 h0 w0) pu order k1 D)(g:Option (Nat×Bool)) :
  ∀(is:List (Nat×Bool))(k:Nat)(s:St)(a:Act)(E:Env)(h:AH)(w:World),k1<=k->(∀m x,is[m]?=some x->order[k+m]?=some x)->nE ops (g,is)=true->xI ops g false s ->
   Step E0 h0 W w0 E h w->HI ops hl C order Hd E0 h0 w0 k h w->AR E N s a ->
   (∀a',Step E0 h0 W w0 E h w->HI ops hl C order Hd E0 h0 w0 (k+is.length) h w->AR E N (ym N ops is s) a'->D (k+is.length) a' w)->D k a w
 |[],k,s,a,E,h,w,_,_,_,_,hs,hI,ha,hK=>hK a hs hI ha
 |x::is,k,s,a,E,h,w,sQ,ho,hg,hi,hs,hI,ha,hK=>by
  obtain⟨i,held⟩:=x
  have hk:order[k]?=some (i,held):=by simpa using ho 0 (i,held) rfl
  have ZZ:∃o,ops[i]?=some o:=by
   simp only[nE,List.all_cons,yC]at hg
   cases h:ops[i]? with
   |none=>rw[h]at hg;simp at hg
   |some o=>exact⟨o,rfl⟩
  obtain⟨o,jE⟩:=ZZ
  simp only[nE,List.all_cons,jE,yC]at hg
  obtain⟨⟨Ho,kC⟩,Qe⟩:=hg
  have Ft:o.guard=g:=by simpa using Ho
  have IV:OA ops g o.dst:=by
   intro j want d ll hd
   subst ll
   simp only[hd]at kC
   simpa using kC
  have uN:=CI hi ha Ft
  have Bg:∀m x,is[m]?=some x->order[k+1+m]?=some x:=fun m x hm=>by
   have:=ho (m+1) x (by simpa using hm)
   rw[show k+1+m=k+(m+1) from by omega];exact this
  have uP:=Cg cx.ord hk jE
  have Qr:held=true->ko (Hd i) E0 h0 w0 w:=fun hp=>hI.held (cx.hh k _ hk hp) (uP.1 hp)
  have Va:=hI.next hk
  have WM:il ops i=o.dst:=by simp[il,jE]
  have next:D (k+1) (a.put o.dst undef) w:=by
   refine JG cx dv g is (k+1) (s.put N o.dst aa) _ E h w (by omega) Bg Qe (by simpa using hi.put IV aa s.ds) hs Va (ha.put _ (.sc _)) ?_
   intro a' oI Qt U9
   rw[show k+1+is.length=k+(is.length+1) from by omega]at Qt ⊢
   exact hK a' oI Qt (by simp only[ym,WM];exact U9)
  by_cases hq:sL o.op=true
  ·exact dv.quiet k i held o undef a w sQ hk jE hq (.inr ⟨uN,rfl⟩) Qr next
  ·refine dv.F0 k i held o a w sQ hk jE (by simpa using hq) ?_
   unfold wpOp
   simp only[jE,uN,zE,if_false]
   exact⟨⟨fun l hc=>hI.held (cx.hc i l hc) (uP.2 (by simpa using hq) l (cx.hc i l hc) hc),fun _=>gW.refl⟩,next⟩
theorem BL{hl:List Nat}{C:Nat->Nat->Bool}{pu:Nat->Bool}{Wf:Nat->Nat->Prop}(cx:H9 P N ops hl C pu order W Wf Hd QP Q E0 h0 w0){k1:Nat}(dv:L_ P ops Q C (fun i=>ko (Hd i) E0 h0 w0) pu order k1 D){K:St->AH->Prop}
  (UY:∀s' a' E' h' w',Step E0 h0 W w0 E' h' w'->HI ops hl C order Hd E0 h0 w0 order.length h' w'->AR E' N s' a'->K s' h'->D order.length a' w') :
  ∀(gs:List (Option (Nat×Bool)×List (Nat×Bool)))(k:Nat)(s:St)(a:Act)(E:Env)(h:AH)(w:World),k1<=k->(∀m,(gs.flatMap (·.2))[m]?=order[k+m]?)->k+(gs.flatMap (·.2)).length=order.length->gs.all (nE ops)=true ->
   Step E0 h0 W w0 E h w->HI ops hl C order Hd E0 h0 w0 k h w->AR E N s a->kX P N Wf Hd QP ops gs K s h->D k a w
 |[],k,s,a,E,h,w,_,ho,KK,_,hs,hI,ha,he=>by
  have:k=order.length:=by simpa using KK
  rw[this]at hI ⊢
  exact UY s a E h w hs hI ha he
 |(g,is)::gs,k,s,a,E,h,w,sQ,ho,KK,hg,hs,hI,ha,he=>by
  simp only[List.flatMap_cons,List.length_append]at KK
  simp only[List.all_cons,yC]at hg
  obtain⟨Ho,kC⟩:=hg
  have UC:∀m x,is[m]?=some x->order[k+m]?=some x:=by
   intro m x hm
   rw[<-ho m]
   simp only[List.flatMap_cons]
   rw[List.getElem?_append_left (zM.1 hm).1]
   exact hm
  have WN:∀m,(gs.flatMap (·.2))[m]?=order[k+is.length+m]?:=by
   intro m
   have:=ho (is.length+m)
   simp only[List.flatMap_cons]at this
   rw[List.getElem?_append_right (by omega),Nat.add_sub_cancel_left]at this
   rw[this,Nat.add_assoc]
  have rest:∀s' a' E' h' w',Step E0 h0 W w0 E' h' w'->HI ops hl C order Hd E0 h0 w0 (k+is.length) h' w'->AR E' N s' a'->kX P N Wf Hd QP ops gs K s' h'->D (k+is.length) a' w':=
   fun s' a' E' h' w' h1 t_ h2 h3=>BL cx dv UY gs (k+is.length) s' a' E' h' w' (by omega) WN (by omega) kC h1 t_ h2 h3
  have pM:xI ops g true s->mu P N Wf Hd QP ops is (kX P N Wf Hd QP ops gs K) s h->D k a w:=fun hi he=>BK cx dv g is k s a E h w sQ UC Ho hi hs hI ha he rest
  have no:xI ops g false s->kX P N Wf Hd QP ops gs K (ym N ops is s) h->D k a w:=fun hi he=>JG cx dv g is k s a E h w sQ UC Ho hi hs hI ha fun a' oI Qt U9=>rest _ a' E h w oI Qt U9 he
  cases g with
  |none=>exact pM rfl he
  |some g=>
   obtain⟨j,want⟩:=g
   simp only[kX]at he
   split at he
   ·rename_i d hd
    unfold bF at he
    split at he
    ·rename_i t ht
     by_cases hw:t=want
     ·exact pM ⟨d,hd,.inl (by simpa[<-hw] using ht)⟩ (he.1 hw)
     ·have iw:t=!want:=by cases t<;>cases want<;>simp_all
      exact no ⟨d,hd,.inl (by simpa[<-iw] using ht)⟩ (he.2 iw)
    ·rename_i l ht
     exact no ⟨d,hd,.inr ⟨rfl,l,ht⟩⟩ he
    ·exact he.elim
   ·exact he.elim
end
section
variable {P:Program} {N:Nat} {W:Nat->Prop} {QP:List fR->AV->AH->Prop} {ops:Array Oper} {Q:Exit->Act->World->Prop}
theorem drop_cons{order:List (Nat×Bool)}{k:Nat}{x:Nat×Bool}(hk:order[k]?=some x):order.drop k=x::order.drop (k+1):=by
 have aR:=(zM.1 hk).1
 rw[List.drop_eq_getElem_cons aR];congr 1
 rw[zJ aR]at hk;exact Option.some.inj hk
theorem Lr{C:Nat->Nat->Bool}{S:Nat->World->Prop}{pu:Nat->Bool}(order:List (Nat×Bool)):L_ P ops Q C S pu order 0 (fun k a w=>wpOps P ops Q ((order.drop k).map (·.1)) a w) where
 quiet k i held o v a w _ hk jE hq hy hS hD:=by
  show wpOps P ops Q ((order.drop k).map (·.1)) a w
  rw[drop_cons hk,List.map_cons,wpOps_cons]
  exact Yq.wpOp jE hy (fun _=>by split;exact hS ‹_›;exact gW.refl) hD
 F0 k i held o a w _ hk jE hq hw:=by
  show wpOps P ops Q ((order.drop k).map (·.1)) a w
  rw[drop_cons hk,List.map_cons,wpOps_cons]
  exact wpOp_mono (fun a' w' h=>h.2) hw
def cA(n:Nat)(order:List (Nat×Bool))(k:Nat):Array Bool:=hH (order.take k) (Array.replicate n false)
theorem qq{n:Nat}{order:List (Nat×Bool)}{k:Nat}{x:Nat×Bool}(hk:order[k]?=some x):cA n order (k+1)=(cA n order k).setIfInBounds x.1 true:=by
 unfold cA hH
 rw[List.take_add_one,hk]
 simp
theorem uz{pu B:List Nat}:∀(order:List (Nat×Bool))(listed:Array Bool),q_ P pu ops B order listed=true->∀k x,order[k]?=some x->m_ P pu ops B (hH (order.take k) listed) x=true
 |[],listed,h,k,x,hk=>by simp at hk
 |y::order,listed,h,k,x,hk=>by
  simp only[q_,yC]at h
  cases k with
  |zero=>simp at hk;subst hk;simpa[hH] using h.1
  |succ k=>simpa[hH] using uz order _ h.2 k x (by simpa using hk)
theorem wM{listed:Array Bool}{i:Nat}{pu B:List Nat}{x:Nat×Bool}(h:m_ P pu ops B listed x=true)(hi:x.1=i):i∈Region.ready .any ops listed:=by
 subst hi
 unfold m_ at h
 split at h
 ·cases h
 ·split at h
  ·simp only[yC,List.contains_iff_mem]at h;exact h.1
  ·simp only[beq_iff_eq]at h;rw[h];simp
theorem nA{pu B:List Nat}{order:List (Nat×Bool)}{k1:Nat}(gh:∀k x,k1<=k->order[k]?=some x->m_ P pu ops B (cA ops.size order k) x=true)(nt:iD .any ops (cA ops.size order k1)) :
  ∀m,iD .any ops (cA ops.size order (k1+m))
 |0=>nt
 |m+1=>by
  cases hk:order[k1+m]? with
  |none=>
   have:cA ops.size order (k1+(m+1))=cA ops.size order (k1+m):=by
    unfold cA;rw[<-Nat.add_assoc,List.take_add_one,hk];simp
   rw[this];exact nA gh nt m
  |some x=>
   rw[<-Nat.add_assoc,qq hk]
   exact(nA gh nt m).set (wM (gh _ x (by omega) hk) rfl)
theorem tB(order:List (Nat×Bool)):iD .any ops (cA ops.size order 0):=by
 intro j o hj
 simp only[cA,hH,List.take_zero,List.foldl_nil]at hj
 rw[Array.getD_eq_getD_getElem?]at hj
 simp only[Array.getElem?_replicate]at hj
 split at hj<;>cases hj
theorem Am{hl pu:List Nat}{S:Nat->World->Prop}(hSh:∀l w w',S l w->w'.heap=w.heap->S l w')(hQ:∀dst v c a w,Q (.panic c) (Act.put a dst v) w->Q (.panic c) a w){order:List (Nat×Bool)}{k1:Nat}
  (wW:Region.noSelect ops=true) (hh:∀(k:Nat)(x:Nat×Bool),order[k]?=some x->x.2=true->hl.contains x.1=true) (gh:∀k x,k1<=k->order[k]?=some x->m_ P pu ops (i_ .any ops) (cA ops.size order k) x=true) (nt:iD .any ops (cA ops.size order k1)) (hlen:order.length<=ops.size) :
  L_ P ops Q (CC (i_ .any ops) hl) S (fun i=>pu.contains i) order k1 (fun k a w=>me P .any ops Q (CC (i_ .any ops) hl) S (fun i=>pu.contains i) (ops.size-k) (cA ops.size order k) a w) where
 quiet k i held o v a w sQ hk jE hq hy hS hD:=by
  have aR:=(zM.1 hk).1
  have gh:=gh k _ sQ hk
  have hY:=wM gh rfl
  have hn:ops.size-k=(ops.size-(k+1))+1:=by omega
  have aaW:iD .any ops (cA ops.size order k):=by
   have:=nA (P:=P) (pu:=pu) (ops:=ops) (B:=i_ .any ops) (order:=order) (k1:=k1) (by assumption) nt (k-k1)
   rwa [show k1+(k-k1)=k from by omega]at this
  simp only[hn]
  refine Lg jE hq (Region.noSelect_spec wW) (fun c a w=>hQ _ _ c a w) _ _ a w aaW ?_ hY hy (fun _=>by split;exact hS ‹_›;exact gW.refl) ?_
  ·intro j oj Fk lH PW P6
   unfold m_ at gh
   simp only[jE,hq,zV,yC,List.all_eq_true,List.mem_range]at gh
   have aaK:j<ops.size:=(Array.getElem?_eq_some_iff.1 Fk).1
   have h2:=gh.2 j aaK
   simp only[Fk,Bool.or_eq_true,beq_iff_eq]at h2
   rcases h2 with((h2 |h2) |h2) |h2
   ·exact absurd h2 lH
   ·rw[PW]at h2;cases h2
   ·exact absurd (LC h2) P6
   ·simp only[yC,Bool.or_eq_true]at h2
    refine⟨h2.1,fun w1 w2 hT hR hl=>?_⟩
    have hT:=hT hl
    unfold RR at hR
    cases held with
    |true=>
     simp only[zV]at hT ⊢
     split at hR
     ·exact hSh i w1 w2 hT hR
     ·rename_i hn
      rcases h2.2 with(h3 |h3) |h3
      ·simp[hl]at h3
      ·exact absurd h3 hn
      ·refine hR.1 i ?_
       unfold CC
       rw[hh k _ hk rfl,Bool.true_and,Bool.not_eq_true']
       cases hb:((i_ .any ops).getD j 0).testBit i with
       |false=>rfl
       |true=>exact absurd (LC hb) P6
    |false=>
     simp only[zE,if_false]at hT ⊢
     split at hR
     ·exact hT.trans (.of_heap hR)
     ·rename_i hn
      rcases h2.2 with(h3 |h3) |h3
      ·simp[hl]at h3
      ·exact absurd h3 hn
      ·exact hT.trans (hR.2 (by simpa using h3))
  ·rw[<-qq (x:=(i,held)) hk];exact hD
 F0 k i held o a w sQ hk jE hq hw:=by
  have aR:=(zM.1 hk).1
  have gh:=gh k _ sQ hk
  have hn:ops.size-k=(ops.size-(k+1))+1:=by omega
  simp only[hn]
  unfold m_ at gh
  simp only[jE,hq,zE,if_false,beq_iff_eq]at gh
  have Cr:Region.ready .any ops (cA ops.size order k)=[i]:=gh
  refine⟨fun h=>(by rw[Cr]at h;cases h),fun j hj=>?_⟩
  rw[Cr]at hj
  have:j=i:=by simpa using hj
  subst this
  refine wpOp_mono (fun a' w' h=>⟨fun o' eO=>?_,?_⟩) hw
  ·rw[jE]at eO;cases eO
   unfold RR;rw[zW (by simp[hq])];exact h.1
  ·rw[<-qq (x:=(j,held)) hk];exact h.2
theorem GP{draw:Bool}{p:tE}(h:EP P ops draw p=true) :
  p.gP.all (nE ops)=true/\(draw=false->p.gP.flatMap (·.2)=jt ops.size/\p.alts=[]) /\
  (draw=true->(q_ P p.pure ops (i_ .any ops) (p.gP.flatMap (·.2)) (Array.replicate ops.size false)=true/\uF ops (jh p) (CC (i_ .any ops) (jh p)) (p.gP.flatMap (·.2))=true)/\Region.noSelect ops=true /\
   Region.ready .any ops (hH (p.gP.flatMap (·.2)) (Array.replicate ops.size false))=kd p.alts /\
   (p.alts=[]->(p.gP.flatMap (·.2)).length=ops.size) /\
   (p.alts≠[]->pT P p.pure ops (i_ .any ops) (jh p) p.alts (p.gP.flatMap (·.2)) (hH (p.gP.flatMap (·.2)) (Array.replicate ops.size false))=true)):=by
 unfold EP at h
 simp only[yC]at h
 obtain⟨h0,h⟩:=h
 refine⟨h0,fun hd=>?_,fun hd=>?_⟩
 ·subst hd
  simp only[yC,beq_iff_eq,List.isEmpty_iff]at h
  exact h
 ·subst hd
  simp only[yC,beq_iff_eq]at h
  obtain⟨⟨⟨⟨h1,h5⟩,h2⟩,h3⟩,h4⟩:=h
  refine⟨⟨h1,h5⟩,h2,h3,fun he=>?_,fun du=>?_⟩
  ·rw[zX (by simpa using he)]at h4;simpa using h4
  ·rw[zW (by simpa using du)]at h4;exact h4
theorem Bt{p:tE}{x:Nat×Bool}(hx:x∈p.gP.flatMap (·.2)\/x∈oH p.alts)(h2:x.2=true):(jh p).contains x.1=true:=by
 rw[List.contains_iff_mem]
 unfold jh
 exact List.mem_map.2 ⟨x,List.mem_filter.2 ⟨List.mem_append.2 hx,h2⟩,rfl⟩
inductive AX where
 |normal
 |exit (id:Nat)
 |goto (l:Nat)
 |ret
def XR:AX->Exit->Prop
 |.normal,.normal=>True
 |.exit i,.exit j=>i=j
 |.goto i,.goto j=>i=j
 |.ret,.ret=>True
 |_,_=>False
abbrev c7:=AX->St->AH->Prop
abbrev cL:=List fR->AV->AH->Prop
def cC(K:St->AH->Prop)(Q:c7):c7
 |.normal,s,h=>K s h
 |x,s,h=>Q x s h
def fI(id:Nat)(Q:c7):c7
 |.exit j,s,h=>if j=id then Q .normal s h else Q (.exit j) s h
 |x,s,h=>Q x s h
def pL(F:c7->cL->St->AH->Prop):Nat->c7->cL->St->AH->Prop
 |0,_,_,_,_=>False
 |n+1,Q,QP,s,h=>F (cC (fun s h=>pL F n Q QP s h) Q) QP s h
def l_(F:c7->cL->St->AH->Prop)(Q:c7)(QP:cL)(s:St)(h:AH):Prop:=∃n,pL F n Q QP s h
def pn(Q:c7):c7
 |.goto _,_,_=>False
 |x,s,h=>Q x s h
def aw(P:Program)(N:Nat)(W:Nat->Prop)(pl:eS):Code->c7->cL->St->AH->Prop
 |.skip,Q,_,s,h=>Q .normal s h
 |.label _,Q,_,s,h=>Q .normal s h
 |.exit id,Q,_,s,h=>Q (.exit id) s h
 |.goto l,Q,_,s,h=>Q (.goto l) s h
 |.ret,Q,_,s,h=>Q .ret s h
 |.seq a b,Q,QP,s,h=>aw P N W pl a (cC (aw P N W pl b Q QP) Q) QP s h
 |.cond c a b,Q,QP,s,h=>aH (l8 s c) (aw P N W pl a Q QP s h) (aw P N W pl b Q QP s h)
 |.block id c,Q,QP,s,h=>aw P N W pl c (fI id Q) QP s h
 |.loop c,Q,QP,s,h=>l_ (aw P N W pl c) Q QP s h
 |.scope c,Q,QP,s,h=>aw P N W pl c (pn Q) QP s h
 |.region id ops _,Q,QP,s,h=>lc P N W QP pl id ops (Q .normal) s h
 |.rangeFunc ..,_,_,_,_=>False
 |.refuse _,_,_,_,_=>False
def CQ(E0:Env)(h0:AH)(W:Nat->Prop)(w0:World)(N:Nat)(Q:c7)(QP:cL):Exit->Act->World->Prop:=fun e a w=>
 (∃x E h s,XR x e/\Step E0 h0 W w0 E h w/\AR E N s a/\Q x s h) \/
 (∃v u E h ds,e=.panic [{ v:=u,recovered:=false }]/\Step E0 h0 W w0 E h w/\VR E v u/\BY E ds a.defers/\QP ds v h)
theorem CQ.trans{E0 E1:Env}{h0 h1:AH}{w0 w1:World}{Q:c7}{QP:cL}{e:Exit}{a:Act}{w:World}(hr:Rel E0 h0 w0)(hs:Step E0 h0 W w0 E1 h1 w1)(hc:CQ E1 h1 W w1 N Q QP e a w):CQ E0 h0 W w0 N Q QP e a w:=by
 rcases hc with⟨x,E,h,s,a1,a2,a3,a4⟩ |⟨v,u,E,h,ds,a1,a2,a3,a4⟩
 ·exact .inl ⟨x,E,h,s,a1,hs.trans hr a2 (fun _ _ hm=>.inl hm),a3,a4⟩
 ·exact .inr ⟨v,u,E,h,ds,a1,hs.trans hr a2 (fun _ _ hm=>.inl hm),a3,a4⟩
section
variable {hl pu:List Nat} {Wf:Nat->Nat->Prop} {Hd:Nat->Nat->Prop} {K:St->AH->Prop} {E:Env} {h:AH} {w0:World}
structure D9 (P:Program) (N:Nat) (W:Nat->Prop) (QP:List fR->AV->AH->Prop) (ops:Array Oper) (Q:Exit->Act->World->Prop) (hl pu:List Nat) (Wf:Nat->Nat->Prop) (Hd:Nat->Nat->Prop) (K:St->AH->Prop) (E:Env) (h:AH) (w0:World):Prop where
 rel:Rel E h w0
 wf:∀i id,Wf i id->W id
 XC:Region.noSelect ops=true
 put:∀dst v c a' w',Q (.panic c) (Act.put a' dst v) w'->Q (.panic c) a' w'
 heap:∀(l:Nat)(w1 w2:World),ko (Hd l) E h w0 w1->w2.heap=w1.heap->ko (Hd l) E h w0 w2
 cx:∀ord:List (Nat×Bool),(∀(k:Nat)(x:Nat×Bool),ord[k]?=some x->x.2=true->hl.contains x.1=true)->uF ops hl (CC (i_ .any ops) hl) ord=true->H9 P N ops hl (CC (i_ .any ops) hl) (fun i=>pu.contains i) ord W Wf Hd QP Q E h w0
 last:∀s' a' E' h' w',Step E h W w0 E' h' w'->AR E' N s' a'->K s' h'->Q .normal a' w'
mutual
theorem S1(dc:D9 P N W QP ops Q hl pu Wf Hd K E h w0):∀(wy:Way)(order:List (Nat×Bool)),xL P pu ops (i_ .any ops) hl wy order (cA ops.size order order.length)=true ->
  (∀(k:Nat)(x:Nat×Bool),order[k]?=some x->x.2=true->hl.contains x.1=true)->(∀x∈wy.DS,x.2=true->hl.contains x.1=true)->iD .any ops (cA ops.size order order.length) ->
  (∀i,i∈(wy.path.head?.map (·.1))->i∈Region.ready .any ops (cA ops.size order order.length)) ->
  ∀(s1:St)(a1:Act)(E1:Env)(h1:AH)(w1:World),Step E h W w0 E1 h1 w1->HI ops hl (CC (i_ .any ops) hl) order Hd E h w0 order.length h1 w1->AR E1 N s1 a1->xl P N Wf Hd QP ops wy K s1 h1 ->
  ∃i,wy.path.head?.map (·.1)=some i/\order.length<ops.size/\wpOp P ops Q i (fun a' w'=>(∀o,ops[i]?=some o->RR (CC (i_ .any ops) hl) (fun l=>ko (Hd l) E h w0) (fun i=>pu.contains i) i o w1 w') /\
   me P .any ops Q (CC (i_ .any ops) hl) (fun l=>ko (Hd l) E h w0) (fun i=>pu.contains i) (ops.size-(order.length+1)) ((cA ops.size order order.length).setIfInBounds i true) a' w') a1 w1
 |.mk path ws,order,eQ,w6,yM,w8,P2,s1,a1,E1,eL,w1,oJ,t_,By,Bs=>by
  cases path with
  |nil=>simp[xL]at eQ
  |cons x rest=>
  obtain⟨i,hd⟩:=x
  refine⟨i,rfl,?_⟩
  unfold xL at eQ
  simp only[yC,Nat.ble_eq,beq_iff_eq]at eQ
  obtain⟨⟨⟨⟨⟨⟨⟨hq,hso⟩,ms⟩,KK⟩,Nn⟩,yH⟩,aaP⟩,hwo⟩:=eQ
  simp only[List.length_cons]at KK
  refine⟨by omega,?_⟩
  have Qb:∀(k:Nat)(x:Nat×Bool),(order++(i,hd)::rest)[k]?=some x->x.2=true->hl.contains x.1=true:=fun k x hk hx=>by
   rw[List.getElem?_append]at hk
   split at hk
   ·exact w6 k x hk hx
   ·exact yM x (by unfold Way.DS;exact List.mem_append_left _ (zP hk)) hx
  have WS:i∈Region.ready .any ops (cA ops.size order order.length):=P2 i (by simp[Way.path])
  unfold xl at Bs
  cases jE:ops[i]? with
  |none=>rw[jE]at hq;simp at hq
  |some o=>
   rw[jE]at hq
   have iS:sL o.op=false:=by simpa using hq
   simp only[nE,List.all_cons,jE,yC]at ms
   obtain⟨⟨Ft,_⟩,ms⟩:=ms
   have Ft:o.guard=none:=by simpa using Ft
   have uN:Region.wanted o (yielded ops a1.tmps)=true:=by simp[Region.wanted,Ft]
   simp only[mu,jE,qZ,iS]at Bs
   unfold wpOp
   simp only[jE,uN,zV]
   have Cw:∀m x,rest[m]?=some x->(order++(i,hd)::rest)[order.length+1+m]?=some x:=by
    intro m x hm
    rw[List.getElem?_append_right (by omega),show order.length+1+m-order.length=m+1 from by omega];simpa using hm
   have yJ:∀m,cA ops.size (order++(i,hd)::rest) (order.length+1+m)=hH (rest.take m) ((cA ops.size order order.length).setIfInBounds i true):=by
    intro m
    unfold cA hH
    rw[List.take_append,List.take_of_length_le (by omega),show order.length+1+m-order.length=m+1 from by omega]
    simp
   have XB:∀k x,order.length+1<=k->(order++(i,hd)::rest)[k]?=some x->m_ P pu ops (i_ .any ops) (cA ops.size (order++(i,hd)::rest) k) x=true:=by
    intro k x hk hx
    obtain⟨m,rfl⟩:∃m,k=order.length+1+m:=⟨k-(order.length+1),by omega⟩
    rw[yJ]
    refine uz rest _ hso m x ?_
    rw[List.getElem?_append_right (by omega),show order.length+1+m-order.length=m+1 from by omega]at hx
    simpa using hx
   have U3:iD .any ops (cA ops.size (order++(i,hd)::rest) (order.length+1)):=by
    have:=yJ 0
    simp only[Nat.add_zero,List.take_zero]at this
    rw[this]
    exact w8.set WS
   have IS:cA ops.size (order++(i,hd)::rest) (order++(i,hd)::rest).length=hH ((i,hd)::rest) (cA ops.size order order.length):=by
    rw[show(order++(i,hd)::rest).length=order.length+1+rest.length from by simp;omega,yJ]
    simp[hH]
   have aaV:iD .any ops (cA ops.size (order++(i,hd)::rest) (order++(i,hd)::rest).length):=by
    have:=nA (P:=P) (pu:=pu) (ops:=ops) (B:=i_ .any ops) (order:=order++(i,hd)::rest) (k1:=order.length+1) XB U3 rest.length
    rwa [show order.length+1+rest.length=(order++(i,hd)::rest).length from by simp;omega]at this
   refine .inl (HJ o oJ.rel By Bs ?_ ?_)
   ·intro v nW E' h' w' a' b1 bA b2 b3
    have QA:=dc.cx _ Qb Nn
    have yK:(order++(i,hd)::rest)[order.length]?=some (i,hd):=by rw[List.getElem?_append_right (zU _)];simp
    have Hl:AL ops i=false:=by unfold AL;rw[jE];exact iS
    have hph:∀l,vm ops (CC (i_ .any ops) hl) (order++(i,hd)::rest) order.length l=vm ops (CC (i_ .any ops) hl) order order.length l:=by
     intro l;unfold vm;rw[List.take_append,List.take_of_length_le (zU _)];simp
    have aa3:HI ops hl (CC (i_ .any ops) hl) (order++(i,hd)::rest) Hd E h w0 order.length eL w1:=fun l hc hp=>t_ l hc (by rw[<-hph];exact hp)
    have uP:=Cg Nn yK jE
    have Be:=oJ.trans dc.rel b1 (fun id _ hm=>.inl (dc.wf i id hm))
    have K1:=HI.F0 QA aa3 oJ yK Hl b1
    have hHW:∀l,CC (i_ .any ops) hl i l=true->ko (Hd l) E h w0 w':=by
     intro l hc
     have nt:=QA.hc i l hc
     exact K1.held nt (by rw[uE yK,uP.2 iS l nt hc,hc,Bool.or_true];rfl)
    refine⟨fun o' eO=>by cases eO;unfold RR;rw[zW (by simp[iS])];exact⟨hHW,fun hh=>bA (hh.imp (fun h=>h) fun hp id hw=>QA.pw i id hp hw)⟩,?_⟩
    have:=BK QA (Am (pu:=pu) dc.heap (fun dst v c a w hh=>dc.put dst v c a w hh) dc.XC Qb XB U3 (by simp;omega)) none rest (order.length+1) _ a' E' h' w' (zU _) Cw ms rfl Be K1 b2 b3 (fun s2 a2 E2 h2 w2 c1 cI c2 c3=>by
     have WV:order.length+1+rest.length=(order++(i,hd)::rest).length:=by simp;omega
     rw[WV]at cI ⊢
     cases ws with
     |nil=>
      have hz:ops.size-(order++(i,hd)::rest).length=0:=by simp at aaP ⊢;omega
      simp only[hz,me]
      refine⟨?_,dc.last s2 a2 E2 h2 w2 c1 c2 c3⟩
      rw[IS,yH];rfl
     |cons wy2 ws2=>
      exact GX dc (wy2::ws2) (order++(i,hd)::rest) (by rw[IS];exact hwo) Qb (fun x hx h2=>yM x (by unfold Way.DS;exact List.mem_append_right _ hx) h2) aaV (by rw[IS];exact yH) (by simp) s2 a2 E2 h2 w2 c1 cI c2 c3)
    have h0:=yJ 0
    simp only[Nat.add_zero,List.take_zero]at h0
    rw[h0]at this
    exact this
   ·intro v E' h' w' u b1 b2 b3
    exact(dc.cx _ Qb Nn).cg v E' h' w' u a1 s1.ds (oJ.trans dc.rel b1 (fun id _ hm=>.inl (dc.wf i id hm))) b2 (By.ds.mono b1.env) b3
termination_by wy=>SizeOf.sizeOf wy
theorem CH(dc:D9 P N W QP ops Q hl pu Wf Hd K E h w0):∀(ws:List Way)(order:List (Nat×Bool)),pT P pu ops (i_ .any ops) hl ws order (cA ops.size order order.length)=true ->
  (∀(k:Nat)(x:Nat×Bool),order[k]?=some x->x.2=true->hl.contains x.1=true)->(∀x∈oH ws,x.2=true->hl.contains x.1=true)->iD .any ops (cA ops.size order order.length) ->
  (∀i∈kd ws,i∈Region.ready .any ops (cA ops.size order order.length)) ->
  ∀(s1:St)(a1:Act)(E1:Env)(h1:AH)(w1:World),Step E h W w0 E1 h1 w1->HI ops hl (CC (i_ .any ops) hl) order Hd E h w0 order.length h1 w1->AR E1 N s1 a1->nI P N Wf Hd QP ops ws K s1 h1 ->
  ∀i∈kd ws,order.length<ops.size/\wpOp P ops Q i (fun a' w'=>(∀o,ops[i]?=some o->RR (CC (i_ .any ops) hl) (fun l=>ko (Hd l) E h w0) (fun i=>pu.contains i) i o w1 w') /\
   me P .any ops Q (CC (i_ .any ops) hl) (fun l=>ko (Hd l) E h w0) (fun i=>pu.contains i) (ops.size-(order.length+1)) ((cA ops.size order order.length).setIfInBounds i true) a' w') a1 w1
 |[],_,_,_,_,_,_,_,_,_,_,_,_,_,_,_,i,hi=>by simp[kd]at hi
 |wy::r,order,eQ,w6,yM,w8,P2,s1,a1,E1,eL,w1,oJ,t_,By,Bs,i,hi=>by
  unfold pT at eQ
  rw[yC]at eQ
  unfold nI at Bs
  have du:wy.path≠[]:=by
   intro h0
   cases wy with
   |mk p ws=>simp only[Way.path]at h0;subst h0;simp[xL]at eQ
  obtain⟨j,hj⟩:∃j,wy.path.head?.map (·.1)=some j:=by
   cases hp:wy.path with
   |nil=>exact absurd hp du
   |cons x l=>exact⟨x.1,rfl⟩
  simp only[kd,List.map_cons,List.mem_cons]at hi
  rcases hi with hi |hi
  ·rw[hj]at hi
   simp only[Option.getD_some]at hi
   subst hi
   obtain⟨i',h1,h2⟩:=S1 dc wy order eQ.1 w6 (fun x hx=>yM x (by unfold oH;exact List.mem_append_left _ hx)) w8 (fun q hq=>P2 q (by rw[hj]at hq;simp only[Option.mem_def,zQ]at hq;subst hq;simp[kd,hj])) s1 a1 E1 eL w1 oJ t_ By Bs.1
   rw[hj]at h1;cases h1
   exact h2
  ·exact CH dc r order eQ.2 w6 (fun x hx=>yM x (by unfold oH;exact List.mem_append_right _ hx)) w8 (fun q hq=>P2 q (by simp only[kd,List.map_cons,List.mem_cons];exact .inr hq)) s1 a1 E1 eL w1 oJ t_ By Bs.2 i hi
termination_by ws=>SizeOf.sizeOf ws
theorem GX(dc:D9 P N W QP ops Q hl pu Wf Hd K E h w0):∀(ws:List Way)(order:List (Nat×Bool)),pT P pu ops (i_ .any ops) hl ws order (cA ops.size order order.length)=true ->
  (∀(k:Nat)(x:Nat×Bool),order[k]?=some x->x.2=true->hl.contains x.1=true)->(∀x∈oH ws,x.2=true->hl.contains x.1=true)->iD .any ops (cA ops.size order order.length) ->
  Region.ready .any ops (cA ops.size order order.length)=kd ws->ws≠[] ->
  ∀(s1:St)(a1:Act)(E1:Env)(h1:AH)(w1:World),Step E h W w0 E1 h1 w1->HI ops hl (CC (i_ .any ops) hl) order Hd E h w0 order.length h1 w1->AR E1 N s1 a1->nI P N Wf Hd QP ops ws K s1 h1 ->
  me P .any ops Q (CC (i_ .any ops) hl) (fun l=>ko (Hd l) E h w0) (fun i=>pu.contains i) (ops.size-order.length) (cA ops.size order order.length) a1 w1
 |ws,order,eQ,w6,yM,w8,tW,du,s1,a1,E1,eL,w1,oJ,t_,By,Bs=>by
  have each:=CH dc ws order eQ w6 yM w8 (fun i hi=>by rw[tW];exact hi) s1 a1 E1 eL w1 oJ t_ By Bs
  have UT:kd ws≠[]:=fun h0=>du (List.map_eq_nil_iff.1 h0)
  have aR:order.length<ops.size:=by
   cases hh:kd ws with
   |nil=>exact absurd hh UT
   |cons j l=>exact(each j (by rw[hh];simp)).1
  have hn:ops.size-order.length=(ops.size-(order.length+1))+1:=by omega
  simp only[hn]
  refine⟨fun h0=>absurd (by rw[<-tW];exact h0) UT,fun i hi=>?_⟩
  rw[tW]at hi
  exact(each i hi).2
termination_by ws=>SizeOf.sizeOf ws+1
end
end
theorem Il{C:Nat->Nat->Bool}:uF ops [] C (jt ops.size)=true:=by
 unfold uF
 rw[List.all_eq_true]
 intro k hk
 have sR:k<ops.size:=by simpa[jt] using hk
 have:(jt ops.size)[k]?=some (k,false):=by simp[jt,sR]
 rw[this]
 simp
theorem Jc(hm:P.follows .mixedOrders=true){pl:eS}{id:Nat}{draw:Bool}(jJ:z_ P pl id ops draw=true){K:St->AH->Prop}{Q:c7}{s:St}{a:Act}{E:Env}{h:AH}{w:World}(Yr:∀s h,K s h->Q .normal s h)
  (hr:Rel E h w) (ha:AR E N s a) (hp:lc P N W QP pl id ops K s h):(Code.region id ops draw).wp P (CQ E h W w N Q QP) a w:=by
 have plain:∀(Wf:Nat->Nat->Prop)(Hd:Nat->Nat->Prop),draw=false->(∀i id,Wf i id->W id)->∀gs,gs.all (nE ops)=true->gs.flatMap (·.2)=jt ops.size->kX P N Wf Hd QP ops gs K s h->(Code.region id ops draw).wp P (CQ E h W w N Q QP) a w:=by
  intro Wf Hd Qi KD gs hg iK pc
  subst Qi
  have cx:H9 P N ops [] (fun _ _=>false) (fun _=>false) (jt ops.size) W Wf Hd QP (CQ E h W w N Q QP) E h w:=⟨hr,fun _ _ h=>by simp at h,fun _ _ _ h=>by simp at h,KD,fun _ _ h=>by simp at h,fun _ _ h=>by simp at h,fun k x hk hx=>by
   have sR:k<ops.size:=by have:=(zM.1 hk).1;simpa[jt] using this
   simp[jt,sR]at hk
   subst hk
   simp at hx,Il,fun v E' h' w' u a ds h1 h2 h3 h4=>.inr ⟨v,u,E',h',ds,rfl,h1,h2,h3,h4⟩⟩
  have:=BL cx (Lr (jt ops.size)) (fun s' a' E' h' w' h1 _ h2 h3=>by
   simp only[List.drop_length,List.map_nil,wpOps]
   exact .inl ⟨.normal,E',h',s',trivial,h1,h2,Yr _ _ h3⟩) _ 0 s a E h w (zU _) (fun m=>by rw[iK];simp) (by rw[iK];simp) hg (Step.refl hr) HI.start ha pc
  refine wp_region ?_
  simpa[jt,Function.comp_def] using this
 unfold lc at hp
 unfold z_ at jJ
 split at hp
 ·rename_i h0
  rw[h0]at jJ
  simp only[yC,Bool.not_eq_true']at jJ
  exact plain (fun _=>W) kN jJ.1 (fun _ _ h=>h) [(none,jt ops.size)] (by simpa using jJ.2) (by simp) (by simpa[kX] using hp)
 rename_i p h0
 rw[h0]at jJ
 simp only at jJ
 have main:∀(Wf:Nat->Nat->Prop)(Hd:Nat->Nat->Prop),(∀i id,(jh p).contains i=true->Hd i id->h.obj id≠none)->(∀j i id,CC (i_ .any ops) (jh p) j i=true->Hd i id->¬Wf j id)->(∀i id,Wf i id->W id)->(∀j id,p.pure.contains j=true->¬Wf j id)->sZ P N Wf Hd QP ops p K s h->(Code.region id ops draw).wp P (CQ E h W w N Q QP) a w:=by
  intro Wf Hd hHd hW KD P3 he
  obtain⟨hg,UD,WY⟩:=GP jJ
  cases draw with
  |false=>
   obtain⟨iK,jF⟩:=UD rfl
   exact plain Wf Hd rfl KD p.gP hg iK (by unfold sZ at he;rw[jF]at he;exact he)
  |true=>
   obtain⟨⟨eQ,hpo⟩,wW,tW,hlen,halt⟩:=WY rfl
   have w6:∀(k:Nat)(x:Nat×Bool),(p.gP.flatMap (·.2))[k]?=some x->x.2=true->(jh p).contains x.1=true:=fun k x hk hx=>Bt (.inl (zP hk)) hx
   have hhI:∀x∈oH p.alts,x.2=true->(jh p).contains x.1=true:=fun x hx h2=>Bt (.inr hx) h2
   have qE:∀j i,CC (i_ .any ops) (jh p) j i=true->(jh p).contains i=true:=fun j i hc=>by unfold CC at hc;simp only[yC]at hc;exact hc.1
   generalize jh p=hl at *
   generalize iK:p.gP.flatMap (·.2)=order at *
   have Hj:Rel E h { w with drawn:=w.drawn+1 }:=hr.of_heap rfl
   have gh:Step E h W w E h { w with drawn:=w.drawn+1 }:=Step.drew hr rfl rfl rfl rfl
   have dc:D9 P N W QP ops (CQ E h W w N Q QP) hl p.pure Wf Hd K E h { w with drawn:=w.drawn+1 }:={
    rel:=Hj
    wf:=KD
    XC:=wW
    put:=by
     intro dst v c a' w' hh
     rcases hh with⟨x,E',h',s',a1,_⟩ |⟨v',u,E',h',ds,a1,a2,a3,a4,a5⟩
     ·cases x<;>exact a1.elim
     ·refine .inr ⟨v',u,E',h',ds,a1,a2,a3,?_,a5⟩
      cases dst<;>exact a4
    heap:=by
     intro l w1 w2 h1 h2 id B a1 a2 a3
     rw[h2];exact h1 id B a1 a2 a3
    cx:=fun ord hho uP=>⟨Hj,hHd,hW,KD,P3,qE,hho,uP,fun v E' h' w' u a ds h1 h2 h3 h4=>.inr ⟨v,u,E',h',ds,rfl,gh.trans hr h1 (fun _ _ hm=>.inl hm),h2,h3,h4⟩⟩
    last:=fun s' a' E' h' w' h1 h2 h3=>.inl ⟨.normal,E',h',s',trivial,gh.trans hr h1 (fun _ _ hm=>.inl hm),h2,Yr _ _ h3⟩ }
   have cx:=dc.cx order w6 hpo
   have S9:∀k x,0<=k->order[k]?=some x->m_ P p.pure ops (i_ .any ops) (cA ops.size order k) x=true:=fun k x _ hk=>uz order _ eQ k x hk
   have atEnd:cA ops.size order order.length=hH order (Array.replicate ops.size false):=by simp[cA]
   refine wp_region_any hm (Ay (C:=CC (i_ .any ops) hl) (S:=fun l=>ko (Hd l) E h { w with drawn:=w.drawn+1 }) (pu:=fun i=>p.pure.contains i) _ _ _ _ ?_)
   have start:me P .any ops (CQ E h W w N Q QP) (CC (i_ .any ops) hl) (fun l=>ko (Hd l) E h { w with drawn:=w.drawn+1 }) (fun i=>p.pure.contains i) (ops.size-0) (cA ops.size order 0) a { w with drawn:=w.drawn+1 }:=by
    by_cases du:p.alts=[]
    ·have pc:kX P N Wf Hd QP ops p.gP K s h:=by unfold sZ at he;rw[du]at he;exact he
     have hl:=hlen du
     refine BL cx (Am (pu:=p.pure) dc.heap (fun dst v c a w hh=>dc.put dst v c a w hh) wW w6 S9 (tB order) (by omega)) (fun s' a' E' h' w' h1 _ h2 h3=>?_) _ 0 s a E h _ (zU _) (fun m=>by rw[iK];simp) (by rw[iK];simp) hg (Step.refl Hj) HI.start ha pc
     have h0:ops.size-order.length=0:=by omega
     simp only[h0,me]
     exact⟨by rw[atEnd,tW,du];rfl,dc.last s' a' E' h' w' h1 h2 h3⟩
    ·have Ds:=halt du
     have pc:kX P N Wf Hd QP ops p.gP (nI P N Wf Hd QP ops p.alts K) s h:=by
      unfold sZ at he
      split at he
      ·rename_i h0;exact absurd h0 du
      ·exact he
     have hle:order.length<=ops.size:=by
      cases UE:p.alts with
      |nil=>exact absurd UE du
      |cons wy ws=>
       rw[UE]at Ds
       unfold pT at Ds
       rw[yC]at Ds
       have h2:=Ds.1
       cases wy with
       |mk path nx=>
        unfold xL at h2
        simp only[yC,Nat.ble_eq]at h2
        omega
     refine BL cx (Am (pu:=p.pure) dc.heap (fun dst v c a w hh=>dc.put dst v c a w hh) wW w6 S9 (tB order) hle) (fun s1 a1 E1 eL w1 oJ t_ By sQ=>?_) _ 0 s a E h _ (zU _) (fun m=>by rw[iK];simp) (by rw[iK];simp) hg (Step.refl Hj) HI.start ha pc
     have w8:iD .any ops (cA ops.size order order.length):=by
      have:=nA (P:=P) (pu:=p.pure) (ops:=ops) (B:=i_ .any ops) (order:=order) (k1:=0) S9 (tB order) order.length
      simpa using this
     exact GX dc p.alts order (by rw[atEnd];exact Ds) w6 hhI w8 (by rw[atEnd];exact tW) du s1 a1 E1 eL w1 oJ t_ By sQ
   simpa[cA,hH] using start
 have XH:∀(Wg:Nat->Nat->Prop)(j id:Nat),p.pure.contains j=true->¬CY p.pure Wg j id:=by
  intro Wg j id hj
  unfold CY
  rw[hj]
  exact fun h=>h
 have Tk:∀(Wg:Nat->Nat->Prop)(j id:Nat),CY p.pure Wg j id->Wg j id:=by
  intro Wg j id hj
  unfold CY at hj
  cases hc:p.pure.contains j with
  |true=>rw[hc]at hj;exact hj.elim
  |false=>rw[hc]at hj;exact hj
 cases Yg:p.held
 ·rw[Yg]at hp
  exact main _ kN (fun _ _ _ h=>h.elim) (fun _ _ _ _ h=>h.elim) (fun j id h=>Tk _ j id h) (fun j id h=>XH _ j id h) hp
 ·rw[Yg]at hp
  obtain⟨Hd,h1,h2⟩:=hp
  refine main _ _ (fun i id hc he=>?_) (fun j i id hc he hm=>?_) ?_ (fun j id h=>XH _ j id h) h2
  ·subst he;exact h1 i (by simpa using hc)
  ·have hm:=Tk _ j id hm
   unfold CC at hc
   simp only[yC]at hc
   exact(HS hm).2 i (List.mem_filter.2 ⟨by simpa using hc.1,hc.2⟩) he
  ·intro i id hm
   exact(HS (Tk _ i id hm)).1
end
section
variable {P:Program} {N:Nat} {W:Nat->Prop}
theorem CQ.mono{E0:Env}{h0:AH}{w0:World}{Q Q':c7}{QP gp:cL}(hq:∀x s h,Q x s h->Q' x s h)(fL:∀ds v h,QP ds v h->gp ds v h){e:Exit}{a:Act}{w:World}
  (h:CQ E0 h0 W w0 N Q QP e a w):CQ E0 h0 W w0 N Q' gp e a w:=by
 rcases h with⟨x,E,h,s,a1,a2,a3,a4⟩ |⟨v,u,E,h,ds,a1,a2,a3,a4,a5⟩
 ·exact .inl ⟨x,E,h,s,a1,a2,a3,hq _ _ _ a4⟩
 ·exact .inr ⟨v,u,E,h,ds,a1,a2,a3,a4,fL _ _ _ a5⟩
theorem pJ(hm:P.follows .mixedOrders=true){pl:eS}:∀(c:Code)(Q:c7)(QP:cL)(s:St)(h:AH),kM P pl c=true->aw P N W pl c Q QP s h->∀(E:Env)(w:World)(a:Act),Rel E h w->AR E N s a->c.wp P (CQ E h W w N Q QP) a w
 |.skip,Q,QP,s,h,eQ,hp,E,w,a,hr,ha=>wp_skip (.inl ⟨.normal,E,h,s,trivial,Step.refl hr,ha,hp⟩)
 |.label _,Q,QP,s,h,eQ,hp,E,w,a,hr,ha=>wp_label (.inl ⟨.normal,E,h,s,trivial,Step.refl hr,ha,hp⟩)
 |.exit id,Q,QP,s,h,eQ,hp,E,w,a,hr,ha=>wp_exit (.inl ⟨.exit id,E,h,s,rfl,Step.refl hr,ha,hp⟩)
 |.goto l,Q,QP,s,h,eQ,hp,E,w,a,hr,ha=>wp_goto (.inl ⟨.goto l,E,h,s,rfl,Step.refl hr,ha,hp⟩)
 |.ret,Q,QP,s,h,eQ,hp,E,w,a,hr,ha=>wp_ret (.inl ⟨.ret,E,h,s,trivial,Step.refl hr,ha,hp⟩)
 |.region id ops draw,Q,QP,s,h,eQ,hp,E,w,a,hr,ha=>Jc hm eQ (fun _ _ h=>h) hr ha hp
 |.rangeFunc ..,_,_,_,_,eQ,hp,_,_,_,_,_=>hp.elim
 |.refuse _,_,_,_,_,eQ,hp,_,_,_,_,_=>hp.elim
 |.cond c x y,Q,QP,s,h,eQ,hp,E,w,a,hr,ha=>by
  simp only[kM,yC]at eQ
  simp only[aw,aH]at hp
  have hc:=ha.eval c
  split at hp
  ·rename_i t ht
   rw[ht]at hc
   generalize hv:a.eval c=v at hc
   cases hc
   cases t
   ·exact wp_cond_false hv (pJ hm y Q QP s h eQ.2 (hp.2 rfl) E w a hr ha)
   ·exact wp_cond_true hv (pJ hm x Q QP s h eQ.1 (hp.1 rfl) E w a hr ha)
  ·exact hp.elim
 |.seq x y,Q,QP,s,h,eQ,hp,E,w,a,hr,ha=>by
  simp only[kM,yC]at eQ
  simp only[aw]at hp
  refine wp_seq (wp_mono (pJ hm x _ QP s h eQ.1 hp E w a hr ha) ?_)
  intro e a' w' hq
  rcases hq with⟨x',E',h',s',a1,a2,a3,a4⟩ |⟨v,u,E',h',ds,rfl,a2,a3,a4,a5⟩
  ·cases x'<;>cases e<;>first |exact a1.elim |skip
   ·exact wp_mono (pJ hm y Q QP s' h' eQ.2 a4 E' w' a' a2.rel a3) fun e a w h=>h.trans hr a2
   ·exact .inl ⟨_,E',h',s',a1,a2,a3,a4⟩
   ·exact .inl ⟨_,E',h',s',a1,a2,a3,a4⟩
   ·exact .inl ⟨_,E',h',s',a1,a2,a3,a4⟩
  ·exact .inr ⟨v,u,E',h',ds,rfl,a2,a3,a4,a5⟩
 |.block id c,Q,QP,s,h,eQ,hp,E,w,a,hr,ha=>by
  simp only[aw]at hp
  refine wp_block (wp_mono (pJ hm c _ QP s h eQ hp E w a hr ha) ?_)
  intro e a' w' hq
  rcases hq with⟨x',E',h',s',a1,a2,a3,a4⟩ |⟨v,u,E',h',ds,rfl,a2,a3,a4,a5⟩
  ·cases x'<;>cases e<;>first |exact a1.elim |skip
   ·exact .inl ⟨.normal,E',h',s',trivial,a2,a3,a4⟩
   ·cases a1
    simp only[fI]at a4
    simp only[Exit.inBlock]
    split
    ·rename_i he;rw[zX he]at a4;exact .inl ⟨.normal,E',h',s',trivial,a2,a3,a4⟩
    ·rename_i he;rw[zW he]at a4;exact .inl ⟨.exit _,E',h',s',rfl,a2,a3,a4⟩
   ·exact .inl ⟨_,E',h',s',a1,a2,a3,a4⟩
   ·exact .inl ⟨_,E',h',s',a1,a2,a3,a4⟩
  ·exact .inr ⟨v,u,E',h',ds,rfl,a2,a3,a4,a5⟩
 |.scope c,Q,QP,s,h,eQ,hp,E,w,a,hr,ha=>by
  simp only[aw]at hp
  refine wp_scope_straight (wp_mono (pJ hm c _ QP s h eQ hp E w a hr ha) ?_)
  intro e a' w' hq
  rcases hq with⟨x',E',h',s',a1,a2,a3,a4⟩ |⟨v,u,E',h',ds,rfl,a2,a3,a4,a5⟩
  ·cases x'<;>cases e<;>first |exact a1.elim |skip
   ·exact .inl ⟨.normal,E',h',s',trivial,a2,a3,a4⟩
   ·exact .inl ⟨_,E',h',s',a1,a2,a3,a4⟩
   ·exact a4.elim
   ·exact .inl ⟨_,E',h',s',a1,a2,a3,a4⟩
  ·exact .inr ⟨v,u,E',h',ds,rfl,a2,a3,a4,a5⟩
 |.loop c,Q,QP,s,h,eQ,hp,E,w,a,hr,ha=>by
  obtain⟨n,hp⟩:=hp
  refine wp_loop_rounds n ?_
  have key:∀(n:Nat)(s':St)(h':AH)(E':Env)(w':World)(a':Act),pL (aw P N W pl c) n Q QP s' h'->Step E h W w E' h' w'->AR E' N s' a'->Code.rounds P c (CQ E h W w N Q QP) n a' w':=by
   intro n
   induction n with
   |zero=>intro s' h' E' w' a' hp _ _;exact hp.elim
   |succ n ih=>
    intro s' h' E' w' a' hp hs ha
    rw[rounds_succ]
    refine wp_mono (pJ hm c _ QP s' h' eQ hp E' w' a' hs.rel ha) ?_
    intro e a'' Es hq
    rcases hq with⟨x',E2,h2,s2,a1,a2,a3,a4⟩ |⟨v,u,E2,h2,ds,rfl,a2,a3,a4,a5⟩
    ·have QK:=hs.trans hr a2 (fun _ _ hm=>.inl hm)
     cases x'<;>cases e<;>first |exact a1.elim |skip
     ·exact ih s2 h2 E2 Es a'' a4 QK a3
     ·exact .inl ⟨_,E2,h2,s2,a1,QK,a3,a4⟩
     ·exact .inl ⟨_,E2,h2,s2,a1,QK,a3,a4⟩
     ·exact .inl ⟨_,E2,h2,s2,a1,QK,a3,a4⟩
    ·exact .inr ⟨v,u,E2,h2,ds,rfl,hs.trans hr a2 (fun _ _ hm=>.inl hm),a3,a4,a5⟩
  exact key n s h E w a hp (Step.refl hr) ha
def lT(P:Program):List ResultVar->St->AH->(List AV->Prop)->Prop
 |[],_,_,K=>K []
 |.tmp t::r,s,h,K=>lT P r s h fun l=>K (s.tm t::l)
 |.cell a t::r,s,h,K=>al (l7 P t) (fW P t) (s.tm a) h fun v _=>lT P r s h fun l=>K (v::l)
def jo:List AV->AV
 |[v]=>v
 |l=>.dY l
def dP(P:Program)(rs:List ResultVar)(R:AE->AH->Prop):c7
 |.normal,s,h=>s.ds=[]/\lT P rs s h fun vs=>R (.ret (jo vs)) h
 |.ret,s,h=>s.ds=[]/\lT P rs s h fun vs=>R (.ret (jo vs)) h
 |_,_,_=>False
def bT(R:AE->AH->Prop):cL:=fun ds v h=>ds=[]/\R (.cg v) h
def wx(tmps:Array Value):ResultVar->Sem Value
 |.tmp t=>pure (tmps.getD t undef)
 |.cell a t=>do loadVar t (<-asAddr (tmps.getD a undef))
theorem CB{E:Env}{s:St}{a:Act}{h:AH}{w:World}(hr:Rel E h w)(ha:AR E N s a):∀(rs:List ResultVar)(K:List AV->Prop),lT P rs s h K ->
  ∃vs us,db E vs us/\K vs/\(rs.mapM (wx a.tmps)).run P w=.ok us w
 |[],K,hp=>⟨[],[],.nil,hp,by simp⟩
 |.tmp t::rs,K,hp=>by
  obtain⟨vs,us,h1,h2,h3⟩:=CB hr ha rs _ hp
  exact⟨s.tm t::vs,a.tmps.getD t undef::us,.cons (ha.tm t) h1,h2,by simp[wx,h3]⟩
 |.cell a' t::rs,K,hp=>by
  simp only[lT]at hp
  obtain⟨v,u,id,B,h1,h2,h3,h4⟩:=Kt (P:=P) hr (ha.tm a') hp
  obtain⟨vs,us,h5,h6,h7⟩:=CB hr ha rs _ h2
  refine⟨v::vs,u::us,.cons h1 h5,h6,?_⟩
  have h8:=h4 w rfl
  have h9:(wx a.tmps (.cell a' t)).run P w=.ok u w:=by
   show(do loadVar t (<-asAddr (a.tmps.getD a' undef)):Sem Value).run P w=.ok u w
   have hx:=ha.tm a'
   unfold Instr.loadAt at h8
   simp only[Sem.run_bind]at h8 ⊢
   have ZX:∃i o,s.tm a'=.ptr i o:=by
    unfold al at hp
    split at hp
    ·rename_i he;exact⟨_,_,he⟩
    ·rename_i he;exact⟨_,_,he⟩
    ·exact hp.elim
   obtain⟨i,o,he⟩:=ZX
   rw[he]at hx
   generalize a.tmps.getD a' undef=q at hx h8
   cases hx
   simpa[asAddr,Instr.sureAddr] using h8
  rw[List.mapM_cons,Sem.run_bind,h9]
  simp[h7]
theorem AI {E : Env} {s : St} {a : Act} {h : AH} {w : World} (hr : Rel E h w) (ha : AR E N s a) (fn : Func) (K : AV → Prop) (hp : lT P fn.results.toList s h fun vs => K (jo vs)) :
    ∃ v u, VR E v u ∧ K v ∧ (results fn a.tmps).run P w = .ok u w := by
  obtain ⟨vs, us, h1, h2, h3⟩ := CB hr ha _ _ hp
  refine ⟨jo vs, if h : us.toArray.size = 1 then us.toArray[0] else .tuple us.toArray, ?_, h2, ?_⟩
  · cases h1 with
    | nil => simpa [jo] using VR.dY db.nil
    | cons a1 a2 =>
      cases a2 with
      | nil => simpa [jo] using a1
      | cons b1 b2 => simpa [jo] using VR.dY (.cons a1 (.cons b1 b2))
  · have he : results fn a.tmps = (do
        let vs ← fn.results.mapM (wx a.tmps)
        pure (if h : vs.size = 1 then vs[0] else .tuple vs)) := by
      unfold results wx; rfl
    rw [he, Sem.run_bind, Array.mapM_eq_mapM_toList, Sem.run_map, h3]
    simp
def s0(args:List AV):St:={ tm:=fun i=>args.getD i aa,ds:=[] }
theorem Ii{E:Env}{args:List AV}{gI:List Value}(ha:db E args gI){n:Nat}(hn:args.length<=n) :
  AR E n (s0 args) { tmps:=gI.toArray++Array.replicate (n-gI.toArray.size) undef,defers:=[] }:=by
 have hl:=ha.length
 refine⟨by simp;omega,fun i=>?_,.nil⟩
 simp only[s0]
 rw[List.getD_eq_getElem?_getD,Array.getD_eq_getD_getElem?]
 by_cases hi:i<args.length
 ·obtain⟨u,hu,hv⟩:=ha.get (i:=i) (a:=args[i]) (zJ hi)
  rw[zJ hi,Array.getElem?_append_left (by simp;omega)]
  simp[hu,hv]
 ·rw[List.getElem?_eq_none (by omega),Array.getElem?_append_right (by simp;omega)]
  have:((Array.replicate (n-gI.toArray.size) undef)[i-gI.toArray.size]?).getD undef=undef:=by
   rw[Array.getElem?_replicate];split<;>rfl
  rw[this]
  exact .sc _
theorem xF{f:FuncId}{fn:Func}{c:Code}{args:List AV}{h:AH}{M:Nat->Prop}{R:AE->AH->Prop}(hm:P.follows .mixedOrders=true)(hf:P.funcs[f]?=some fn)(hb:fn.body=some c)(hn:args.length<=fn.ntmps){pl:eS}(eQ:kM P pl c=true)
  (hp:aw P fn.ntmps (fun id=>M id\/h.next<=id) pl c (dP P fn.results.toList R) (bT R) (s0 args) h):aE P f args h M R:=by
 intro E w gI hr ha
 refine calls_of_wp hf hb (wp_mono (pJ hm c _ _ _ h eQ hp E w _ hr (Ii ha hn)) ?_)
 have back:∀E' h' w',Step E h (fun id=>M id\/h.next<=id) w E' h' w'->Step E h M w E' h' w':=fun E' h' w' hs=>(Step.refl hr).trans hr hs (fun id aR hm=>by
  rcases hm with hm |hm
  ·exact .inl hm
  ·exact .inr hm)
 intro e a' w' hq
 rcases hq with⟨x,E',h',s',a1,a2,a3,a4⟩ |⟨v,u,E',h',ds,rfl,a2,a3,a4,a5⟩
 ·have fin:s'.ds=[]->(lT P fn.results.toList s' h' fun vs=>R (.ret (jo vs)) h')->a'.defers=[]/\∃v,(results fn a'.tmps).run P w'=.ok v w'/\∃YZ vT ae,Step E h M w YZ vT w'/\ER YZ ae (.returned v)/\R ae vT:=by
   intro pd jA
   obtain⟨v,u,b1,b2,b3⟩:=AI a2.rel a3 fn (fun v=>R (.ret v) h') jA
   refine⟨?_,u,b3,E',h',.ret v,back _ _ _ a2,b1,b2⟩
   have:=a3.ds
   rw[pd]at this
   generalize a'.defers=l at this
   cases this;rfl
  cases x<;>cases e<;>first |exact a1.elim |exact a4.elim |exact fin a4.1 a4.2
 ·refine⟨?_,E',h',.cg v,back _ _ _ a2,⟨u,rfl,a3⟩,a5.2⟩
  have:=a4
  rw[a5.1]at this
  generalize a'.defers=l at this
  cases this;rfl
end
section
variable {P:Program} {N:Nat} {W:Nat->Prop} {pl:eS}
theorem Jb{Hd:Nat->Prop}{QP gp:cL}(hq:∀ds v h,QP ds v h->gp ds v h){held:Bool}{o:Oper}{K K':St->AH->Prop}(hk:∀s h,K s h->K' s h){s:St}{h:AH}(hp:qZ P N W Hd QP held o K s h) :
  qZ P N W Hd gp held o K' s h:=by
 unfold qZ at *
 split at hp
 ·refine qOp_mono (fun v d _ hh=>?_) hp
  unfold eQ at *
  split at hh
  ·exact hk _ _ hh
  ·exact⟨hh.1,hk _ _ hh.2⟩
 ·exact NX (fun v d h'=>hk _ _) (fun v h'=>hq _ _ _) hp
theorem pr{Wf:Nat->Nat->Prop}{Hd:Nat->Nat->Prop}{QP gp:cL}(hq:∀ds v h,QP ds v h->gp ds v h){ops:Array Oper}:∀(is:List (Nat×Bool)){K K':St->AH->Prop},(∀s h,K s h->K' s h)->∀{s:St}{h:AH},mu P N Wf Hd QP ops is K s h->mu P N Wf Hd gp ops is K' s h
 |[],_,_,hk,_,_,hp=>hk _ _ hp
 |x::is,K,K',hk,s,h,hp=>by
  simp only[mu]at hp ⊢
  split at hp
  ·exact Jb hq (fun s h=>pr hq is hk) hp
  ·exact hp.elim
theorem Gs{x:AV}{a b a' b':Prop}(ha:a->a')(hb:b->b')(hp:aH x a b):aH x a' b':=by
 unfold aH at *
 split at hp
 ·exact⟨fun h=>ha (hp.1 h),fun h=>hb (hp.2 h)⟩
 ·exact hp.elim
theorem Gr{want:Bool}{x:AV}{a b a' b':Prop}(ha:a->a')(hb:b->b')(hp:bF want x a b):bF want x a' b':=by
 unfold bF at *
 split at hp
 ·exact⟨fun h=>ha (hp.1 h),fun h=>hb (hp.2 h)⟩
 ·exact hb hp
 ·exact hp.elim
theorem rR{Wf:Nat->Nat->Prop}{Hd:Nat->Nat->Prop}{QP gp:cL}(hq:∀ds v h,QP ds v h->gp ds v h){ops:Array Oper}:∀(gs:List (Option (Nat×Bool)×List (Nat×Bool))){K K':St->AH->Prop},(∀s h,K s h->K' s h)->∀{s:St}{h:AH},kX P N Wf Hd QP ops gs K s h->kX P N Wf Hd gp ops gs K' s h
 |[],_,_,hk,_,_,hp=>hk _ _ hp
 |(none,is)::gs,K,K',hk,s,h,hp=>by
  simp only[kX]at hp ⊢
  exact pr hq is (fun s h=>rR hq gs hk) hp
 |(some (j,want),is)::gs,K,K',hk,s,h,hp=>by
  simp only[kX]at hp ⊢
  split at hp
  ·exact Gr (pr hq is (fun s h=>rR hq gs hk)) (rR hq gs hk) hp
  ·exact hp.elim
mutual
theorem NT{Wf:Nat->Nat->Prop}{Hd:Nat->Nat->Prop}{QP gp:cL}(hq:∀ds v h,QP ds v h->gp ds v h){ops:Array Oper}{K K':St->AH->Prop}(hk:∀s h,K s h->K' s h):∀(w:Way){s:St}{h:AH},xl P N Wf Hd QP ops w K s h->xl P N Wf Hd gp ops w K' s h
 |.mk path [],s,h,hp=>by
  unfold xl at hp ⊢
  exact pr hq path hk hp
 |.mk path (w::ws),s,h,hp=>by
  unfold xl at hp ⊢
  exact pr hq path (fun s h=>xk hq hk (w::ws)) hp
termination_by w=>SizeOf.sizeOf w
theorem xk{Wf:Nat->Nat->Prop}{Hd:Nat->Nat->Prop}{QP gp:cL}(hq:∀ds v h,QP ds v h->gp ds v h){ops:Array Oper}{K K':St->AH->Prop}(hk:∀s h,K s h->K' s h):∀(ws:List Way){s:St}{h:AH},nI P N Wf Hd QP ops ws K s h->nI P N Wf Hd gp ops ws K' s h
 |[],s,h,hp=>by unfold nI;trivial
 |w::r,s,h,hp=>by
  unfold nI at hp ⊢
  exact⟨NT hq hk w hp.1,xk hq hk r hp.2⟩
termination_by ws=>SizeOf.sizeOf ws
end
theorem FX{Wf:Nat->Nat->Prop}{Hd:Nat->Nat->Prop}{QP gp:cL}(hq:∀ds v h,QP ds v h->gp ds v h){ops:Array Oper}{K K':St->AH->Prop}(hk:∀s h,K s h->K' s h){s:St}{h:AH}{p:tE}(hp:sZ P N Wf Hd QP ops p K s h):sZ P N Wf Hd gp ops p K' s h:=by
 unfold sZ at *
 split at hp
 ·exact rR hq _ hk hp
 ·exact rR hq _ (fun s h=>xk hq hk _) hp
theorem Gq{QP gp:cL}(hq:∀ds v h,QP ds v h->gp ds v h){ops:Array Oper}{id:Nat}{K K':St->AH->Prop}(hk:∀s h,K s h->K' s h){s:St}{h:AH}(hp:lc P N W QP pl id ops K s h) :
  lc P N W gp pl id ops K' s h:=by
 unfold lc at *
 split at hp
 ·exact pr hq _ hk hp
 ·split at hp
  ·exact FX hq hk hp
  ·obtain⟨Hd,h1,h2⟩:=hp;exact⟨Hd,h1,FX hq hk h2⟩
theorem uw{K K':St->AH->Prop}{Q Q':c7}(hk:∀s h,K s h->K' s h)(hq:∀x s h,Q x s h->Q' x s h):∀x s h,cC K Q x s h->cC K' Q' x s h:=by
 intro x s h hp
 cases x
 ·exact hk _ _ hp
 ·exact hq (.exit _) _ _ hp
 ·exact hq (.goto _) _ _ hp
 ·exact hq .ret _ _ hp
theorem mL:∀(c:Code){Q Q':c7}{QP gp:cL},(∀x s h,Q x s h->Q' x s h)->(∀ds v h,QP ds v h->gp ds v h)->∀{s:St}{h:AH},aw P N W pl c Q QP s h->aw P N W pl c Q' gp s h
 |.skip,_,_,_,_,hq,_,_,_,hp=>hq _ _ _ hp
 |.label _,_,_,_,_,hq,_,_,_,hp=>hq _ _ _ hp
 |.exit _,_,_,_,_,hq,_,_,_,hp=>hq _ _ _ hp
 |.goto _,_,_,_,_,hq,_,_,_,hp=>hq _ _ _ hp
 |.ret,_,_,_,_,hq,_,_,_,hp=>hq _ _ _ hp
 |.rangeFunc ..,_,_,_,_,_,_,_,_,hp=>hp.elim
 |.refuse _,_,_,_,_,_,_,_,_,hp=>hp.elim
 |.region _ ops _,_,_,_,_,hq,fL,_,_,hp=>Gq fL (hq .normal) hp
 |.seq a b,_,_,_,_,hq,fL,_,_,hp=>mL a (uw (fun _ _=>mL b hq fL) hq) fL hp
 |.cond c a b,_,_,_,_,hq,fL,_,_,hp=>Gs (mL a hq fL) (mL b hq fL) hp
 |.block id c,Q,Q',_,_,hq,fL,_,_,hp=>by
  refine mL c (Q:=fI id Q) ?_ fL hp
  intro x s h hp
  cases x with
  |exit j=>
   simp only[fI]at hp ⊢
   split at hp
   ·rename_i he;rw[zX he];exact hq _ _ _ hp
   ·rename_i he;rw[zW he];exact hq _ _ _ hp
  |normal=>exact hq .normal _ _ hp
  |goto l=>exact hq (.goto l) _ _ hp
  |ret=>exact hq .ret _ _ hp
 |.scope c,Q,Q',_,_,hq,fL,_,_,hp=>by
  refine mL c (Q:=pn Q) ?_ fL hp
  intro x s h hp
  cases x with
  |exit j=>exact hq (.exit j) _ _ hp
  |normal=>exact hq .normal _ _ hp
  |goto l=>exact hp.elim
  |ret=>exact hq .ret _ _ hp
 |.loop c,Q,Q',QP,gp,hq,fL,s,h,hp=>by
  obtain⟨n,hp⟩:=hp
  refine⟨n,?_⟩
  have key:∀(n:Nat)(s:St)(h:AH),pL (aw P N W pl c) n Q QP s h->pL (aw P N W pl c) n Q' gp s h:=by
   intro n
   induction n with
   |zero=>intro s h hp;exact hp.elim
   |succ n ih=>intro s h hp;exact mL c (uw ih hq) fL hp
  exact key n s h hp
theorem pC{ι:Type}{c:Code}{Q:c7}{QP:cL}(I:ι->St->AH->Prop)(μ:ι->Nat)(i:ι){s:St}{h:AH}(h0:I i s h)
  (step:∀i s h,I i s h->aw P N W pl c (cC (fun s' h'=>∃i',μ i'<μ i/\I i' s' h') Q) QP s h):l_ (aw P N W pl c) Q QP s h:=by
 refine⟨μ i+1,?_⟩
 have key:∀(n:Nat)(i:ι)(s:St)(h:AH),μ i<n->I i s h->pL (aw P N W pl c) n Q QP s h:=by
  intro n
  induction n with
  |zero=>intro i s h aR _;omega
  |succ n ih=>
   intro i s h aR hi
   refine mL c (uw (fun s' h'=>?_) (fun _ _ _ h=>h)) (fun _ _ _ h=>h) (step i s h hi)
   rintro⟨i',h1,h2⟩
   exact ih i' s' h' (by omega) h2
 exact key _ i s h (by omega) h0
def Code.at:Code->List Nat->Code
 |c,[]=>c
 |.seq a _,0::p=>Code.at a p
 |.seq _ b,_::p=>Code.at b p
 |.cond _ a _,0::p=>Code.at a p
 |.cond _ _ b,_::p=>Code.at b p
 |.block _ c,_::p=>Code.at c p
 |.loop c,_::p=>Code.at c p
 |.scope c,_::p=>Code.at c p
 |c,_=>c
abbrev aN(cells:List AV)(sz:Nat)(ty:TypeId):AO:={ cells:=cells,sz:=sz,ty:=ty }
theorem AH.dy(h:AH)(o:AO)(i:Nat):(h.alloc o).obj i=if i=h.next then some o else h.obj i:=rfl
theorem AH.bZ(h:AH)(o:AO):(h.alloc o).next=h.next+1:=rfl
theorem AH.uD(h:AH)(id off:Nat)(cs:List AV):(h.put id off cs).next=h.next:=rfl
theorem AH.jB(h:AH)(id:Nat):(h.del id).next=h.next:=rfl
theorem AH.R0(h:AH)(id i:Nat):(h.del id).obj i=if i=id then none else h.obj i:=rfl
theorem AH.pG(h:AH)(id:Nat)(k:Kind)(i:Nat):(h.jr id k).obj i=if i=id then(h.obj i).map (fun o=>{ o with kind:=k }) else h.obj i:=rfl
theorem AH.cm(h:AH)(o:AO):(h.alloc o).obj h.next=some o:=by simp[AH.dy]
theorem AH.alloc_old{h:AH}{o:AO}{i:Nat}(hi:i<h.next):(h.alloc o).obj i=h.obj i:=by rw[AH.dy,zW (by omega)]
theorem AH.lM{h:AH}{id off:Nat}{cs:List AV}{i:Nat}(hi:i≠id):(h.put id off cs).obj i=h.obj i:=by rw[AH.cS,zW hi]
theorem AH.JS{h:AH}{id off:Nat}{cs:List AV}{o:AO}(ho:h.obj id=some o):(h.put id off cs).obj id=some { o with cells:=putCells o.cells off cs }:=by rw[AH.cS,zX rfl,ho];rfl
theorem AH.yd{h:AH}{id i:Nat}(hi:i≠id):(h.del id).obj i=h.obj i:=by rw[AH.R0,zW hi]
theorem Mo(tm:Nat->AV)(d:Nat)(v:AV):fk tm d v d=v:=by simp[fk]
theorem mg{tm:Nat->AV}{d:Nat}{v:AV}{i:Nat}(h:i≠d):fk tm d v i=tm i:=by simp[fk,h]
end
section
variable {P:Program}
def aA(tm:Nat->AV):List (Nat×AV)->Nat->AV
 |[]=>tm
 |x::r=>aA (fk tm x.1 x.2) r
def wz:Code->Array Oper
 |.region _ ops _=>ops
 |_=>#[]
section
variable {N:Nat} {W:Nat->Prop} {pl:eS} {Q:c7} {QP:cL} {s:St} {h:AH}
theorem LD{id:Nat}{ops:Array Oper}{draw:Bool}{gs:List (Option (Nat×Bool)×List (Nat×Bool))}(hp:rD pl id=some ⟨gs,false,[],[]⟩) :
  aw P N W pl (.region id ops draw) Q QP s h=kX P N (fun _=>W) kN QP ops gs (Q .normal) s h:=by
 simp only[aw,lc,hp,sZ];rfl
theorem Gh{id:Nat}{ops:Array Oper}{draw:Bool}{gs:List (Option (Nat×Bool)×List (Nat×Bool))}{pu:List Nat}(hp:rD pl id=some ⟨gs,false,[],pu⟩) :
  aw P N W pl (.region id ops draw) Q QP s h=kX P N (CY pu fun _=>W) kN QP ops gs (Q .normal) s h:=by
 simp only[aw,lc,hp,sZ]
variable {ops:Array Oper} {K:St->AH->Prop} {is:List (Nat×Bool)} {gs:List (Option (Nat×Bool)×List (Nat×Bool))}
end
def PD(o:Option AO)(off:Nat)(K:AV->Prop):Prop:=
 match o with
 |some o=>(match o.kind with |.row=>True |_=>False)/\(match o.cells[off]? with |some c=>K c |none=>False)
 |none=>False
theorem au{n:Option Nat}{id off:Nat}{h:AH}{K:AV->Nat->Prop}:al (some false) n (.ptr id off) h K=PD (h.obj id) off (fun v=>K v id):=by
 simp only[al,PD]
 apply propext
 constructor
 ·rintro⟨o,c,⟨h1,h2,h3⟩,h4⟩
  rw[h1];simp only[h2,h3];exact⟨trivial,h4⟩
 ·intro hh
  cases ho:h.obj id with
  |none=>rw[ho]at hh;exact hh.elim
  |some o=>
   rw[ho]at hh
   obtain⟨h1,h2⟩:=hh
   cases hk:o.kind with
   |row=>
    cases hc:o.cells[off]? with
    |none=>rw[hc]at h2;exact h2.elim
    |some c=>rw[hc]at h2;exact⟨o,c,⟨rfl,hk,hc⟩,h2⟩
   |iter s p=>rw[hk]at h1;exact h1.elim
   |map l=>rw[hk]at h1;exact h1.elim
   |IX b ob=>rw[hk]at h1;exact h1.elim
def ye(c:Option AV)(K:AV->Prop):Prop:=match c with |some c=>K c |none=>False
theorem ab{c:AV}{K:AV->Prop}:ye (some c) K=K c:=rfl
theorem I4{K:AV->Prop}:ye none K=False:=rfl
theorem ao{cells:List AV}{sz:Nat}{ty:TypeId}{ro:Bool}{off:Nat}{K:AV->Prop}:PD (some { cells:=cells,sz:=sz,ty:=ty,ro:=ro,kind:=.row }) off K=ye cells[off]? K:=by
 unfold PD ye;simp
def Iw(o:Option AO)(off n:Nat)(K:AV->Prop):Prop:=
 match o with
 |some o=>(match o.kind with |.row=>True |_=>False)/\off+n<=o.cells.length/\K (.agg ((o.cells.drop off).take n))
 |none=>False
theorem oF{n:Nat}{id off:Nat}{h:AH}{K:AV->Nat->Prop}:al (some true) (some n) (.ptr id off) h K=Iw (h.obj id) off n (fun v=>K v id):=by
 simp only[al,Iw]
 apply propext
 constructor
 ·rintro⟨o,⟨h1,h2,h3⟩,h4⟩
  rw[h1];simp only[h2];exact⟨trivial,h3,h4⟩
 ·intro hh
  cases ho:h.obj id with
  |none=>rw[ho]at hh;exact hh.elim
  |some o=>
   rw[ho]at hh
   obtain⟨h1,h2,h3⟩:=hh
   cases hk:o.kind with
   |row=>exact⟨o,⟨rfl,hk,h2⟩,h3⟩
   |iter s p=>rw[hk]at h1;exact h1.elim
   |map l=>rw[hk]at h1;exact h1.elim
   |IX b ob=>rw[hk]at h1;exact h1.elim
theorem mG{cells:List AV}{sz:Nat}{ty:TypeId}{ro:Bool}{off n:Nat}{K:AV->Prop}:Iw (some { cells:=cells,sz:=sz,ty:=ty,ro:=ro,kind:=.row }) off n K=(off+n<=cells.length/\K (.agg ((cells.drop off).take n))):=by
 unfold Iw;simp
theorem aD{i o:Nat}{K:AV->Prop}:aP (.ptr i o) K=K (.ptr i o):=rfl
theorem ag{d i o:Nat}{K:AV->Prop}:ai (some d) (.ptr i o) K=K (.ptr i (o+d)):=rfl
theorem bu{t:Bool}{a b:AV}{K:AV->Prop}:aV (.sc (.bool t)) a b K=K (if t then a else b):=rfl
theorem kL{sz id off len:Nat}{k:IntKind}{n:Int}{K:AV->Prop}:br (some (sz,none)) (.sl id off len) (.sc (.int k n)) K=((0<=n/\n<(len:Int))/\K (.ptr id (off+n.toNat*sz))):=rfl
theorem Ro{sz len id off:Nat}{k:IntKind}{n:Int}{K:AV->Prop}:br (some (sz,some len)) (.ptr id off) (.sc (.int k n)) K=((0<=n/\n<(len:Int))/\K (.ptr id (off+n.toNat*sz))):=rfl
theorem dN{l:List AV}{k:Nat}{K:AV->Prop}:dm (.dY l) k K=ye l[k]? K:=by
 simp only[dm,ye]
 apply propext
 constructor
 ·rintro⟨c,h1,h2⟩;rw[h1];exact h2
 ·intro hh;cases hc:l[k]? with
  |none=>rw[hc]at hh;exact hh.elim
  |some c=>rw[hc]at hh;exact⟨c,rfl,hh⟩
theorem dq{t:Bool}{K:AV->Prop}:im .not (.sc (.bool t)) K=K (.sc (.bool !t)):=rfl
theorem Rg{k:IntKind}{n:Int}{K:AV->Prop}:im .neg (.sc (.int k n)) K=K (.sc (.int k (k.wrap (0-n)))):=rfl
theorem G8{id off len:Nat}{K:AV->Prop}:bK (.sl id off len) K=K (.sc (.int .i64 len)):=rfl
theorem EJ{a:Option Addr}{n c:Nat}{K:AV->Prop}:bK (.sc (.slice a n c)) K=K (.sc (.int .i64 n)):=rfl
theorem JZ{s:ByteArray}{K:AV->Prop}:bK (.sc (.string s)) K=K (.sc (.int .i64 s.size)):=rfl
theorem Ew{s:ByteArray}:ba (.sc (.string s))=true:=rfl
theorem CO{id off len:Nat}:ba (.sl id off len)=false:=rfl
theorem AC{a:Option Addr}{n c:Nat}:ba (.sc (.slice a n c))=false:=rfl
theorem Tu{t:TypeId}{x:AV}{K:AV->Prop}:rE (some false) t x K=K (.kR t x):=rfl
theorem Tx{k k':IntKind}{n:Int}{K:AV->Prop}:qp (some k) (.sc (.int k' n)) K=K (.sc (.int k (k.wrap n))):=rfl
theorem Rh{T t:TypeId}{ok:Bool}{v:AV}{K:AV->Prop}:CZ (some false) T ok (.kR t v) K=(t=T/\K (if ok then .dY [v,.sc (.bool true)] else v)):=rfl
theorem aj{t:Bool}{a b:Prop}:aH (.sc (.bool t)) a b=((t=true->a)/\(t=false->b)):=rfl
theorem ck{want t:Bool}{a b:Prop}:bF want (.sc (.bool t)) a b=((t=want->a)/\(t=(!want)->b)):=rfl
theorem Xg{want:Bool}{a b:Prop}:bF want aa a b=b:=rfl
theorem Tw{s:ByteArray}{k:IntKind}{n:Int}{K:AV->Prop}:tn true (.sc (.string s)) (.sc (.int k n)) K=∃c:UInt8,(0<=n/\s[n.toNat]?=some c)/\K (.sc (.int .u8 c.toNat)):=rfl
section
variable {t:TypeId} {nz:Bool} {k:IntKind} {a b:Int} {x y:ByteArray} {K:AV->Prop}
theorem aT:ah P .add t nz (.sc (.int k a)) (.sc (.int k b)) K=K (.sc (.int k (k.wrap (a+b)))):=by simp[ah]
theorem jL:ah P .sub t nz (.sc (.int k a)) (.sc (.int k b)) K=K (.sc (.int k (k.wrap (a-b)))):=by simp[ah]
theorem zx:ah P .mul t nz (.sc (.int k a)) (.sc (.int k b)) K=K (.sc (.int k (k.wrap (a*b)))):=by simp[ah]
theorem eG:ah P .eql t nz (.sc (.int k a)) (.sc (.int k b)) K=K (.sc (.bool (a==b))):=by simp[ah]
theorem b5:ah P .neq t nz (.sc (.int k a)) (.sc (.int k b)) K=K (.sc (.bool (a != b))):=by simp[ah]
theorem aZ:ah P .lss t nz (.sc (.int k a)) (.sc (.int k b)) K=K (.sc (.bool (decide (a<b)))):=by simp[ah]
theorem MP:ah P .leq t nz (.sc (.int k a)) (.sc (.int k b)) K=K (.sc (.bool (decide (a<=b)))):=by simp[ah]
theorem eU:ah P .gtr t nz (.sc (.int k a)) (.sc (.int k b)) K=K (.sc (.bool (decide (a > b)))):=by simp[ah]
theorem io:ah P .geq t nz (.sc (.int k a)) (.sc (.int k b)) K=K (.sc (.bool (decide (a>=b)))):=by simp[ah]
theorem bB:ah P .eql t nz (.sc (.string x)) (.sc (.string y)) K=K (.sc (.bool (decide (x=y)))):=rfl
theorem wD:ah P .neq t nz (.sc (.string x)) (.sc (.string y)) K=K (.sc (.bool (!decide (x=y)))):=rfl
theorem J8:ah P .add t nz (.sc (.string x)) (.sc (.string y)) K=(x.size+y.size<9223372036854775808/\K (.sc (.string (x++y)))):=rfl
end
theorem fm{α:Type}{f:α->List AV}{k:Nat}(hf:∀x,(f x).length=k):∀(l:List α)(i j:Nat),j<k->(l.flatMap f)[i*k+j]?=(l[i]?).bind fun x=>(f x)[j]?
 |[],i,j,_=>by simp
 |x::l,0,j,hj=>by simp[List.getElem?_append_left,hf,hj]
 |x::l,i+1,j,hj=>by
  rw[List.flatMap_cons,List.getElem?_append_right (by rw[hf,Nat.add_mul];omega),hf]
  have:(i+1)*k+j-k=i*k+j:=by rw[Nat.add_mul];omega
  rw[this,fm hf l i j hj];simp
theorem jK{α:Type}{f:α->List AV}{k:Nat}(hf:∀x,(f x).length=k)(hk:0<k)(l:List α)(i:Nat):(l.flatMap f)[i*k]?=(l[i]?).bind fun x=>(f x)[0]?:=fm hf l i 0 hk
theorem fy{α:Type}{f:α->List AV}{k:Nat}(hf:∀x,(f x).length=k):∀(l:List α),(l.flatMap f).length=l.length*k
 |[]=>by simp
 |x::l=>by rw[List.flatMap_cons,List.length_append,hf,fy hf l,List.length_cons,Nat.add_mul];omega
theorem sY{α:Type}{f:α->List AV}{k:Nat}(hf:∀x,(f x).length=k):∀(l:List α)(i:Nat)(x:α),l[i]?=some x->((l.flatMap f).drop (i*k)).take k=f x
 |[],i,x,h=>by simp at h
 |y::l,0,x,h=>by
  simp only[zA,zQ]at h;subst h
  simp only[Nat.zero_mul,List.drop_zero,List.flatMap_cons]
  rw[List.take_append,hf,Nat.sub_self,List.take_zero,List.append_nil,List.take_of_length_le (by rw[hf];exact zU _)]
 |y::l,i+1,x,h=>by
  simp only[zB]at h
  rw[List.flatMap_cons,List.drop_append,hf]
  have h1:(i+1)*k-k=i*k:=by rw[Nat.add_mul];omega
  rw[h1,List.drop_eq_nil_of_le (by rw[hf,Nat.add_mul];omega),List.nil_append]
  exact sY hf l i x h
theorem aS{n:Int}(h0:-9223372036854775808<=n)(h1:n<=9223372036854775807):IntKind.i64.wrap n=n:=IntWalk.i64_in _ (by omega)
end
section
variable {P:Program}
abbrev KT:=St->AH->Prop
abbrev CE:=List (Option (Nat×Bool)×List (Nat×Bool))
section
variable {N:Nat} {W:Nat->Prop} {pl:eS} {Q:c7} {QP:cL} {s:St} {h:AH} {c a b:Code} {T:Prop}
theorem iP(e:c=.seq a b){C:KT}(hb:∀s h,aw P N W pl b Q QP s h=C s h)(ha:aw P N W pl a (cC C Q) QP s h=T):aw P N W pl c Q QP s h=T:=by
 subst e
 have:aw P N W pl b Q QP=C:=funext fun s=>funext fun h=>hb s h
 subst this;exact ha
theorem rh{o:Operand}{A B:Prop}(e:c=.cond o a b)(hA:aw P N W pl a Q QP s h=A)(hB:aw P N W pl b Q QP s h=B)(ht:aH (l8 s o) A B=T):aw P N W pl c Q QP s h=T:=by
 subst e hA hB;exact ht
theorem EU{id:Nat}(e:c=.block id a)(ha:aw P N W pl a (fI id Q) QP s h=T):aw P N W pl c Q QP s h=T:=by subst e;exact ha
theorem Rx(e:c=.loop a):aw P N W pl c Q QP s h=l_ (aw P N W pl a) Q QP s h:=by subst e;rfl
variable {ops:Array Oper} {K:KT} {is:List (Nat×Bool)} {gs rest:CE}
variable {Wf:Nat->Nat->Prop}
end
end
section
attribute [simp] aA fk s0 aD ag bu kL Ro dN dq Rg G8 EJ JZ Ew CO AC Tu Tx Rh aj ck Xg Tw aT jL zx eG b5 aZ MP eU io bB wD J8 au ao oF mG ab I4 dP bT lT jo cC fI pn
end
section
abbrev aW:AV:=.sc (.slice none 0 0)
def bN{α:Type}(f:α->List AV)(sz:Nat)(ty:TypeId)(h:AH)(x:AV)(l:List α):Prop:=
 (x=aW/\l=[])\/∃id,x=.sl id 0 l.length/\h.obj id=some (aN (l.flatMap f) sz ty)
def cP(S:Nat->Prop)(x:AV):Prop:=∀id off n,x=.sl id off n->S id
theorem bN.nil{α:Type}{f:α->List AV}{sz:Nat}{ty:TypeId}{h:AH}:bN f sz ty h aW []:=.inl ⟨rfl,rfl⟩
theorem bN.frame{α:Type}{f:α->List AV}{sz:Nat}{ty:TypeId}{h h':AH}{x:AV}{l:List α}(hl:bN f sz ty h x l)(hf:∀id off n,x=.sl id off n->h'.obj id=h.obj id):bN f sz ty h' x l:=by
 rcases hl with hl |⟨id,hx,ho⟩
 ·exact .inl hl
 ·exact .inr ⟨id,hx,by rw[hf id _ _ hx];exact ho⟩
theorem bN.len{α:Type}{f:α->List AV}{sz:Nat}{ty:TypeId}{h:AH}{x:AV}{l:List α}(hl:bN f sz ty h x l){K:AV->Prop}:(ba x=false)/\bK x K=K (.sc (.int .i64 l.length)):=by
 rcases hl with⟨rfl,rfl⟩ |⟨id,rfl,ho⟩
 ·exact⟨rfl,rfl⟩
 ·exact⟨rfl,rfl⟩
theorem my{z cs:List AV}(hz:cs.length=z.length):putCells z 0 cs=cs:=by
 have key:∀(cs z p:List AV),cs.length=z.length->putCells (p++z) p.length cs=p++cs:=by
  intro cs
  induction cs with
  |nil=>intro z p h;have:z=[]:=List.length_eq_zero_iff.1 (by simpa using h.symm);subst this;rfl
  |cons c cs ih=>
   intro z p h
   cases z with
   |nil=>simp at h
   |cons a z=>
    simp only[putCells]
    have:=ih z (p++[c]) (by simpa using h)
    simp only[List.append_assoc,List.singleton_append,List.length_append,List.length_singleton]at this
    rw[show(p++a::z).set p.length c=p++c::z from by simp]
    exact this
 simpa using key cs z [] hz
theorem V2{α:Type}{f:α->List AV}{sz bytes:Nat}{ty:TypeId}{z:List Value}(hf:∀x,(f x).length=sz)(hJ:0<sz)(hz:z.length=sz)(h1:∀x,(f x).all cG=true)(hb:bytes<=1024)
  {h:AH} {x:AV} {l:List α} {t:α} {W:Nat->Prop} {K:AV->AH->Prop} (hl:bN f sz ty h x l) (hw:cP W x) (hn:l.length<=100000000)
  (hK:∀y h',bN f sz ty h' y (l++[t])->cP (h.next<=·) y->(∀i,i<h.next->(∀off n,x≠.sl i off n)->h'.obj i=h.obj i)->h.next<=h'.next->K y h') :
  dX (some (sz,ty,z)) 1 [(0,.agg (f t))] h (fun v h4=>fu (some (sz,bytes,ty)) x v h4 W K):=by
 have iN:dM (fun i=>some (i*sz,sz)) (z.map .sc) [(0,.agg (f t))]=some (f t):=by
  simp only[dM,cM,Nat.zero_mul,hf,zZ,hz,zG,zU,and_self,zV]
  rw[my (by simp[hf,hz])]
 refine⟨f t,⟨iN,h1 t⟩,?_⟩
 have sN:(l.length+1)*bytes<=140737488355328:=by
  have:(l.length+1)*bytes<=100000001*1024:=Nat.mul_le_mul (by omega) hb
  omega
 have ja:((f t).drop 0).take (1*sz)=f t:=by rw[List.drop_zero,List.take_of_length_le (by rw[hf];omega)]
 rcases hl with⟨rfl,rfl⟩ |⟨id,rfl,ho⟩
 ·refine⟨1,f t,.inr ⟨rfl,_,AH.cm _ _,rfl,by simp[hf],ja.symm⟩,?_⟩
  show if 1=0 then _ else _
  rw[zW (by omega)]
  refine⟨⟨by omega,by simpa using sN⟩,?_⟩
  refine hK _ _ (.inr ⟨_,rfl,?_⟩) ?_ ?_ ?_
  ·rw[AH.cm];simp[aN]
  ·intro i off n he;cases he;simp only[AH.bZ];omega
  ·intro i hi _;rw[AH.alloc_old (by simp only[AH.bZ];omega),AH.alloc_old hi]
  ·simp only[AH.bZ];omega
 ·have hid:=h.lt _ _ ho
  refine⟨1,f t,.inr ⟨rfl,_,AH.cm _ _,rfl,by simp[hf],ja.symm⟩,?_⟩
  show if 1=0 then _ else _
  rw[zW (by omega)]
  have hlen:(l.flatMap f).length=l.length*sz:=fy hf l
  refine .inl ⟨rfl,_,⟨hw _ _ _ rfl,by rw[AH.alloc_old hid];exact ho,rfl,rfl,rfl,rfl,by simp[aN,hlen],by omega,sN⟩,?_⟩
  refine hK _ _ (.inr ⟨_,by rw[List.length_append,List.length_singleton],?_⟩) ?_ ?_ ?_
  ·rw[AH.dy,zX (by simp[AH.bZ,AH.jB])]
   simp only[aN,List.flatMap_append,List.flatMap_cons,List.flatMap_nil,List.append_nil]
   rw[List.take_of_length_le (by rw[hlen];exact zU _)]
  ·intro i off n he;cases he;simp only[AH.bZ];omega
  ·intro i hi du
   have:i≠id:=fun e=>du 0 l.length (by rw[e])
   rw[AH.alloc_old (by simp only[AH.bZ,AH.jB];omega),AH.yd this,AH.alloc_old hi]
  ·simp only[AH.bZ,AH.jB];omega
end
section
theorem cX{h:AH}{id off:Nat}{cs cells:List AV}{sz:Nat}{ty:TypeId}(ho:h.obj id=some { cells:=cells,sz:=sz,ty:=ty }):(h.put id off cs).obj id=some { cells:=putCells cells off cs,sz:=sz,ty:=ty }:=by rw[AH.JS ho]
structure Fr (h h':AH) (S:Nat->Prop):Prop where
 next:h.next<=h'.next
 dH:∀id,id<h.next->¬S id->h'.obj id=h.obj id
theorem Fr.refl{h:AH}{S:Nat->Prop}:Fr h h S:=⟨zU _,fun _ _ _=>rfl⟩
theorem Fr.trans{h h1 h2:AH}{S:Nat->Prop}(a:Fr h h1 S)(b:Fr h1 h2 fun id=>S id\/h.next<=id):Fr h h2 S:=
 ⟨zR a.next b.next,fun id h1 h2=>by rw[b.dH id (Nat.lt_of_lt_of_le h1 a.next) (fun hh=>hh.elim h2 (fun hh=>by omega)),a.dH id h1 h2]⟩
theorem Fr.mono{h h1:AH}{S S':Nat->Prop}(a:Fr h h1 S)(b:∀id,S id->S' id):Fr h h1 S':=⟨a.next,fun id h1 h2=>a.dH id h1 fun h=>h2 (b id h)⟩
theorem Fr.alloc{h h1:AH}{S:Nat->Prop}(a:Fr h h1 S)(o:AO):Fr h (h1.alloc o) S:=⟨Nat.le_succ_of_le a.next,fun id hi hs=>by rw[AH.alloc_old (Nat.lt_of_lt_of_le hi a.next)];exact a.dH id hi hs⟩
theorem Fr.put{h h1:AH}{S:Nat->Prop}(a:Fr h h1 S){id off:Nat}{cs:List AV}(hs:S id\/h.next<=id):Fr h (h1.put id off cs) S:=
 ⟨a.next,fun i hi hn=>by rw[AH.lM (fun e=>by subst e;exact hs.elim hn (fun h=>by omega))];exact a.dH i hi hn⟩
theorem Fr.obj{h h1:AH}{S:Nat->Prop}(a:Fr h h1 S){id:Nat}{o:AO}(ho:h.obj id=some o)(hs:¬S id):h1.obj id=some o:=by rw[a.dH id (h.lt _ _ ho) hs,ho]
theorem aX{z:List Value}{sz:Nat}{t:TypeId}{h:AH}{K:AV->AH->Prop}:bw (some z) sz t h K=((z.all (·.oneCell')=true)/\K (.ptr h.next 0) (h.alloc (aN (z.map .sc) sz t))):=rfl
theorem Ov{t:TypeId}{v:AV}{h:AH}{KP:AV->AH->Prop}:tD (.kR t v) h KP=KP (.kR t v) h:=rfl
def Pf(o:Option AO)(c:Option (List AV))(n off:Nat)(w:Prop)(K:List AV->Prop):Prop:=
 match o,c with
 |some o,some cs=>((match o.kind with |.row=>True |_=>False)/\o.ro=false/\w/\cs.all cG=true/\cs.length=n/\off+n<=o.cells.length)/\K cs
 |_,_=>False
theorem aF{n id off:Nat}{x:AV}{h:AH}{W:Nat->Prop}{K:AH->Prop}:aG (some n) (.ptr id off) x h W K=Pf (h.obj id) (cM x) n off (W id) (fun cs=>K (h.put id off cs)):=by
 apply propext
 simp only[aG,Pf]
 constructor
 ·rintro⟨o,vW,⟨h1,h2,h3,h4,h5,h6,h7,h8⟩,h9⟩
  rw[h2,h5];simp only[h3]
  exact⟨⟨trivial,h4,h1,h6,h7,h8⟩,h9⟩
 ·intro hh
  cases ho:h.obj id with
  |none=>rw[ho]at hh;exact hh.elim
  |some o=>
   cases hc:cM x with
   |none=>rw[ho,hc]at hh;exact hh.elim
   |some cs=>
    rw[ho,hc]at hh
    obtain⟨⟨h3,h4,h1,h6,h7,h8⟩,h9⟩:=hh
    refine⟨o,cs,⟨h1,rfl,?_,h4,rfl,h6,h7,h8⟩,h9⟩
    cases hk:o.kind with
    |row=>rfl
    |iter s p=>rw[hk]at h3;exact h3.elim
    |map l=>rw[hk]at h3;exact h3.elim
    |IX b ob=>rw[hk]at h3;exact h3.elim
theorem bG{cells cs:List AV}{sz n off:Nat}{ty:TypeId}{w:Prop}{K:List AV->Prop}:Pf (some { cells:=cells,sz:=sz,ty:=ty }) (some cs) n off w K=((w/\cs.all cG=true/\cs.length=n/\off+n<=cells.length)/\K cs):=by simp[Pf]
theorem eY{l:List AV}:cM (.agg l)=some l:=rfl
theorem dC{k:IntKind}{n:Int}:cM (.sc (.int k n))=some [.sc (.int k n)]:=rfl
theorem lP{s:ByteArray}:cM (.sc (.string s))=some [.sc (.string s)]:=rfl
theorem mw{b:Bool}:cM (.sc (.bool b))=some [.sc (.bool b)]:=rfl
theorem HT{a:Option Addr}{n c:Nat}:cM (.sc (.slice a n c))=some [.sc (.slice a n c)]:=rfl
theorem VV{a:Option Addr}:cM (.sc (.pointer a))=some [.sc (.pointer a)]:=rfl
theorem VX:cM (.sc .nilIface)=some [.sc .nilIface]:=rfl
theorem R6{i o:Nat}:cM (.ptr i o)=some [.ptr i o]:=rfl
theorem Gi{i o n:Nat}:cM (.sl i o n)=some [.sl i o n]:=rfl
theorem R7{t:TypeId}{v:AV}:cM (.kR t v)=some [.kR t v]:=rfl
theorem VZ{f:Fn}{a b:List AV}:cM (.fn f a b)=some [.fn f a b]:=rfl
theorem pj{h:AH}{id off:Nat}{cs cells:List AV}{sz:Nat}{ty:TypeId}(ho:h.obj id=some { cells:=cells,sz:=sz,ty:=ty }):(h.put id off cs).obj id=some { cells:=putCells cells off cs,sz:=sz,ty:=ty }:=by rw[AH.JS ho]
theorem nN{a b:Nat}(h:a<b):a≠b/\b≠a/\a≠b+1/\b+1≠a/\a≠b+2/\b+2≠a/\a≠b+3/\b+3≠a/\a≠b+4/\b+4≠a:=by omega
theorem CN{α:Type}(l:List α)(k:Nat):(l.map fun _=>k).sum=l.length*k:=by induction l with |nil=>simp |cons a l ih=>simp[ih,Nat.add_mul,Nat.add_comm]
attribute [simp] aX Ov cR dM putCells Value.oneCell' cG aF bG eY dC lP mw HT VV VX R6 Gi R7 VZ
end
section
variable {P:Program} {N:Nat} {W:Nat->Prop}
def HG(P:Program)(N:Nat)(W:Nat->Prop)(ops:Array Oper):List Nat->(St->AH->Prop)->(St->AV->AH->Prop)->St->AH->Prop
 |[],K,_,s,h=>K s h
 |i::r,K,KP,s,h=>match ops[i]? with
  |some o=>match o.guard with
   |none=>match sL o.op with
    |true=>qOp P o.op (l8 s) h fun v _=>HG P N W ops r K KP (s.put N o.dst v) h
    |false=>uk P W o.op (l8 s) s.ds h (fun v nW h'=>HG P N W ops r K KP (({ s with ds:=nW }:St).put N o.dst v) h') (KP s)
   |some _=>False
  |none=>False
theorem FW{ops:Array Oper}{K:St->AH->Prop}{KP:St->AV->AH->Prop}{E0:Env}{h0:AH}{w0:World}{Qc:Exit->Act->World->Prop}(sM:Rel E0 h0 w0)
  (hK:∀s h E w a,K s h->Step E0 h0 W w0 E h w->AR E N s a->Qc .normal a w)
  (K0:∀s v h E w a u,KP s v h->Step E0 h0 W w0 E h w->AR E N s a->VR E v u->Qc (.panic [{ v:=u,recovered:=false }]) a w) :
  ∀(l:List Nat)(s:St)(h:AH)(E:Env)(w:World)(a:Act),HG P N W ops l K KP s h->Step E0 h0 W w0 E h w->AR E N s a->wpOps P ops Qc l a w
 |[],s,h,E,w,a,hp,hs,ha=>hK s h E w a hp hs ha
 |i::r,s,h,E,w,a,hp,hs,ha=>by
  simp only[HG]at hp
  rw[wpOps_cons]
  split at hp
  ·rename_i o ho
   split at hp
   ·rename_i hg
    have hw:Region.wanted o (yielded ops a.tmps)=true:=by unfold Region.wanted;rw[hg]
    unfold Go.wpOp
    simp only[ho,hw,zV]
    refine .inl ?_
    split at hp
    ·obtain⟨av,u,d,h1,h2,h3,h4⟩:=JQ o hs.rel ha hp
     have:=h4 w (fun _ _ _ _=>rfl)
     unfold Oper.wp
     rw[this,Oper.upon_value]
     exact FW sM hK K0 r _ h E w _ h2 hs (ha.put _ h1)
    ·refine F1 o hs.rel ha hp ?_ ?_
     ·intro v nW E' h' w' a' h1 h2 h3
      exact FW sM hK K0 r _ h' E' w' a' h3 (hs.trans sM h1 fun _ _ hm=>.inl hm) h2
     ·intro v E' h' w' u h1 h2 h3
      exact K0 s v h' E' w' a u h3 (hs.trans sM h1 fun _ _ hm=>.inl hm) (ha.mono h1.env) h2
   ·exact hp.elim
  ·exact hp.elim
def Q0(P:Program)(f:FuncId)(args:List AV)(h:AH)(M:Nat->Prop)(R:AH->Prop):Prop:=
 ∀E w gI,Rel E h w->db E args gI->CallsD P f gI.toArray .returning w fun e u' w'=>(∃r,e=.returned r)/\u'=.returning/\∃E' h',Step E h M w E' h' w'/\R h'
def Q1(P:Program)(f:FuncId)(args:List AV)(av:AV)(h:AH)(M:Nat->Prop)(R:AH->Prop):Prop:=
 ∀E w gI u,Rel E h w->db E args gI->VR E av u->CallsD P f gI.toArray (.panicking [{ v:=u,recovered:=false }]) w fun e u' w'=>(∃r,e=.returned r)/\u'=.panicking [{ v:=u,recovered:=true }]/\∃E' h',Step E h M w E' h' w'/\R h'
section
variable {fn:Func} {M:Nat->Prop} {R:AE->AH->Prop} {E0 E:Env} {h0 h:AH} {w0 w:World} {s:St} {a:Act} {g:FuncId} {cap args:List AV}
def pE(E0:Env)(h0:AH)(M:Nat->Prop)(w0:World)(R:AE->AH->Prop):Ending->World->Prop:=fun e w'=>∃E' h' ae,Step E0 h0 M w0 E' h' w'/\ER E' ae e/\R ae h'
theorem Db(ha:AR E N s a)(pd:s.ds=[⟨.func g,cap,args⟩]):∃vs ws,db E cap vs/\db E args ws/\a.defers=[⟨.fn (.func g) vs.toArray,ws.toArray⟩]:=by
 have:=ha.ds
 rw[pd]at this
 generalize a.defers=l at this
 cases this with
 |cons h1 h2=>
  cases h2
  obtain⟨vs,ws,e1,e2,e3,e4⟩:=h1
  rename_i v
  refine⟨vs,ws,e3,e4,?_⟩
  cases v
  simp only at e1 e2
  rw[e1,e2]
theorem wO(hs:Step E0 h0 M w0 E h w)(ha:AR E N s a)(jA:lT P fn.results.toList s h fun vs=>R (.ret (jo vs)) h):Leaves P fn a.tmps (pE E0 h0 M w0 R) [] .returning w:=by
 obtain⟨v,u,b1,b2,b3⟩:=AI hs.rel ha fn (fun v=>R (.ret v) h) jA
 exact⟨u,b3,E,h,.ret v,hs,b1,b2⟩
theorem Kp(sM:Rel E0 h0 w0)(hs:Step E0 h0 M w0 E h w)(ha:AR E N s a)(pd:s.ds=[⟨.func g,cap,args⟩])(he:xY P g=true){M':Nat->Prop}(hM:∀id,id<h.next->M' id->M id\/h0.next<=id)
  (hd:Q0 P g (args++cap) h M' fun h'=>lT P fn.results.toList s h' fun vs=>R (.ret (jo vs)) h'):Leaves P fn a.tmps (pE E0 h0 M w0 R) a.defers .returning w:=by
 obtain⟨vs,ws,e3,e4,e5⟩:=Db ha pd
 rw[e5]
 refine leaves_cons (by simp) (f:=g) (args:=(ws++vs).toArray) ?_ ?_
 ·have:=rU he (ws.toArray++vs.toArray) w
  simp only[invoke]
  rw[this];simp
 ·refine(hd E w _ hs.rel (e4.append e3)).mono ?_
  rintro e u' w' ⟨⟨r,rfl⟩,rfl,E',h',h1,h2⟩
  simp only[settle]
  exact wO (hs.trans sM h1 hM) (ha.mono h1.env) h2
theorem Kq(sM:Rel E0 h0 w0)(hs:Step E0 h0 M w0 E h w)(ha:AR E N s a)(pd:s.ds=[⟨.func g,cap,args⟩])(he:xY P g=true){av:AV}{u:Value}(hu:VR E av u){M':Nat->Prop}(hM:∀id,id<h.next->M' id->M id\/h0.next<=id)
  (hd:Q1 P g (args++cap) av h M' fun h'=>lT P fn.results.toList s h' fun vs=>R (.ret (jo vs)) h'):Leaves P fn a.tmps (pE E0 h0 M w0 R) a.defers (.panicking [{ v:=u,recovered:=false }]) w:=by
 obtain⟨vs,ws,e3,e4,e5⟩:=Db ha pd
 rw[e5]
 refine leaves_cons (by simp) (f:=g) (args:=(ws++vs).toArray) ?_ ?_
 ·have:=rU he (ws.toArray++vs.toArray) w
  simp only[invoke]
  rw[this];simp
 ·refine(hd E w _ u hs.rel (e4.append e3) hu).mono ?_
  rintro e u' w' ⟨⟨r,rfl⟩,rfl,E',h',h1,h2⟩
  simp only[settle,List.dropWhile_nil]
  exact wO (hs.trans sM h1 hM) (ha.mono h1.env) h2
end
def TC(P:Program)(N:Nat)(W:Nat->Prop)(E0:Env)(h0:AH)(w0:World)(c:Code)(Qc:Exit->Act->World->Prop)(s:St)(h:AH):Prop:=∀E w a,Step E0 h0 W w0 E h w->AR E N s a->c.wp P Qc a w
def DN:cL:=fun _ _ _=>False
def JA(N:Nat)(W:Nat->Prop)(E0:Env)(h0:AH)(w0:World)(Qc:Exit->Act->World->Prop):c7:=fun x s h=>∀e E w a,XR x e->Step E0 h0 W w0 E h w->AR E N s a->Qc e a w
variable {E0:Env} {h0:AH} {w0:World} {Qc:Exit->Act->World->Prop} {s:St} {h:AH}
theorem QL(hm:P.follows .mixedOrders=true)(sM:Rel E0 h0 w0){pl:eS}{c:Code}(eQ:kM P pl c=true)(hp:aw P N W pl c (JA N W E0 h0 w0 Qc) DN s h):TC P N W E0 h0 w0 c Qc s h:=by
 intro E w a hs ha
 refine wp_mono (pJ hm c _ _ s h eQ hp E w a hs.rel ha) ?_
 rintro e a' w' (⟨x,E',h',s',a1,a2,a3,a4⟩ |⟨v,u,E',h',ds,a1,a2,a3,a4,a5⟩)
 ·exact a4 e E' w' a' a1 (hs.trans sM a2 fun _ _ hm=>.inl hm) a3
 ·exact a5.elim
theorem Gw{x y:Code}(hx:TC P N W E0 h0 w0 x (fun e a w=>match e with |.normal=>y.wp P Qc a w |e=>Qc e a w) s h):TC P N W E0 h0 w0 (.seq x y) Qc s h:=by
 intro E w a hs ha
 refine wp_seq (wp_mono (hx E w a hs ha) ?_)
 intro e a' w' hq
 cases e<;>exact hq
theorem pD(hm:P.follows .mixedOrders=true)(sM:Rel E0 h0 w0){pl:eS}{c x y:Code}(hc:c=.seq x y)(eQ:kM P pl x=true)(hp:aw P N W pl x (cC (TC P N W E0 h0 w0 y Qc) (JA N W E0 h0 w0 Qc)) DN s h):TC P N W E0 h0 w0 c Qc s h:=by
 subst hc
 refine Gw (QL hm sM eQ (mL x ?_ (fun _ _ _ h=>h) hp))
 intro e s' h' hq
 intro e' E w a hx hs ha
 cases e<;>cases e'<;>first |exact hx.elim |skip
 ·exact hq E w a hs ha
 ·exact hq _ E w a hx hs ha
 ·exact hq _ E w a hx hs ha
 ·exact hq _ E w a hx hs ha
theorem LO(sM:Rel E0 h0 w0){id:Nat}{c:Code}{ops:Array Oper}(hc:c=.region id ops false){K:St->AH->Prop}{KP:St->AV->AH->Prop}
  (hK:∀s h E w a,K s h->Step E0 h0 W w0 E h w->AR E N s a->Qc .normal a w)
  (K0:∀s v h E w a u,KP s v h->Step E0 h0 W w0 E h w->AR E N s a->VR E v u->Qc (.panic [{ v:=u,recovered:=false }]) a w)
  (hp:HG P N W ops (List.range ops.size) K KP s h):TC P N W E0 h0 w0 c Qc s h:=by
 subst hc
 intro E w a hs ha
 exact wp_region (FW sM hK K0 _ s h E w a hp hs ha)
theorem Ar{id:Nat}{c b:Code}(hc:c=.block id b)(hp:TC P N W E0 h0 w0 b (Exit.inBlock id Qc) s h):TC P N W E0 h0 w0 c Qc s h:=by
 subst hc
 intro E w a hs ha
 exact wp_block (hp E w a hs ha)
theorem HW{ι:Type}{c b:Code}(hc:c=.loop b)(I:ι->St->AH->Prop)(μ:ι->Nat)(i:ι)(rQ:I i s h)
  (step:∀i s h,I i s h->TC P N W E0 h0 w0 b (fun e a w=>match e with |.normal=>∃i' s' h' E',μ i'<μ i/\I i' s' h'/\Step E0 h0 W w0 E' h' w/\AR E' N s' a |e=>Qc e a w) s h):TC P N W E0 h0 w0 c Qc s h:=by
 subst hc
 intro E w a hs ha
 refine wp_loop_rounds (μ i+1) ?_
 have key:∀(n:Nat)(i:ι)(s:St)(h:AH)(E:Env)(w:World)(a:Act),μ i<n->I i s h->Step E0 h0 W w0 E h w->AR E N s a->Code.rounds P b Qc n a w:=by
  intro n
  induction n with
  |zero=>intro i s h E w a aR;omega
  |succ n ih=>
   intro i s h E w a aR hi hs ha
   rw[rounds_succ]
   refine wp_mono (step i s h hi E w a hs ha) ?_
   intro e a' w' hq
   cases e with
   |normal=>
    obtain⟨i',s',h',E',h1,h2,h3,h4⟩:=hq
    exact ih i' s' h' E' w' a' (by omega) h2 h3 h4
   |_=>exact hq
 exact key _ i s h E w a (by omega) rQ hs ha
end
section
variable {P:Program}
abbrev VK:=List AV->AH->Prop
abbrev DK:=(Nat->AV)->AH->Prop
def Az(G:VK->VK):Nat->VK
 |0=>fun _ _=>False
 |n+1=>G (Az G n)
def cY(G:VK->VK):VK:=fun vs h=>∃n,Az G n vs h
theorem bU{ι:Type}{G:VK->VK}(I:ι->VK)(μ:ι->Nat)(i:ι){vs:List AV}{h:AH}(h0:I i vs h)
  (step:∀(K:VK) i vs h,I i vs h->(∀i' Pe h',μ i'<μ i->I i' Pe h'->K Pe h')->G K vs h):cY G vs h:=by
 have key:∀n i vs h,μ i<n->I i vs h->Az G n vs h:=by
  intro n
  induction n with
  |zero=>intro i vs h aR;omega
  |succ n ih=>intro i vs h aR hi;exact step _ i vs h hi fun i' Pe h' h1 h2=>ih i' Pe h' (by omega) h2
 exact⟨μ i+1,key _ i vs h (by omega) h0⟩
def l9(P:Program):List ResultVar->List AV->AH->(List AV->Prop)->Prop
 |[],_,_,K=>K []
 |.tmp _::r,v::vs,h,K=>l9 P r vs h fun l=>K (v::l)
 |.cell _ t::r,v::vs,h,K=>al (l7 P t) (fW P t) v h fun u _=>l9 P r vs h fun l=>K (u::l)
 |_,_,_,_=>False
def ss:ResultVar->Nat
 |.tmp t=>t
 |.cell a _=>a
theorem Gp{tm:Nat->AV}{ds:List fR}{h:AH}:∀(rs:List ResultVar)(K:List AV->Prop),lT P rs ⟨tm,ds⟩ h K=l9 P rs (rs.map fun r=>tm (ss r)) h K
 |[],_=>rfl
 |.tmp t::rs,K=>by
  simp only[lT,List.map_cons,l9,ss]
  exact Gp rs _
 |.cell a t::rs,K=>by
  simp only[lT,List.map_cons,l9,ss]
  congr 1
  funext v _
  exact Gp rs _
def aJ(P:Program)(rs:List ResultVar)(R:AE->AH->Prop):VK:=fun vs h=>l9 P rs vs h fun l=>R (.ret (jo l)) h
theorem HN{rs:List ResultVar}{R:AE->AH->Prop}{tm:Nat->AV}{h:AH}:dP P rs R .ret ⟨tm,[]⟩ h=aJ P rs R (rs.map fun r=>tm (ss r)) h:=by
 show([]=[]/\_)=_
 rw[Gp]
 exact propext ⟨fun h=>h.2,fun h=>⟨rfl,h⟩⟩
theorem R2{rs:List ResultVar}{R:AE->AH->Prop}{tm:Nat->AV}{h:AH}:dP P rs R .normal ⟨tm,[]⟩ h=aJ P rs R (rs.map fun r=>tm (ss r)) h:=HN
attribute [simp] aJ l9
end
section
variable {P:Program} {N:Nat} {W:Nat->Prop} {pl:eS}
def ni(o:Oper):Bool:=match o.op with |.defer ..=>false |_=>true
def sD:Code->Bool
 |.region _ ops _=>ops.all ni
 |.seq a b |.cond _ a b=>sD a&&sD b
 |.block _ c |.loop c |.scope c=>sD c
 |_=>true
theorem W7{W:Nat->Prop}{o:Oper}(ho:ni o=true){ρ:Operand->AV}{ds:List fR}{h:AH}{K K':AV->List fR->AH->Prop}{KP xH:AV->AH->Prop}(hk:∀v h',K v ds h'->K' v ds h')(Fq:∀v h',KP v h'->xH v h')
  (hp:uk P W o.op ρ ds h K KP):uk P W o.op ρ ds h K' xH:=by
 unfold ni at ho
 revert ho hp
 cases o.op<;>intro ho hp<;>simp only[uk]at hp ⊢<;>try exact hp.elim
 case alloc=>exact zd (fun v h'=>hk v h') hp
 case box=>exact DA (fun v h'=>hk v h') hp
 case store=>exact za (fun h'=>hk aa h') hp
 case buildSlice=>exact DB (fun v h'=>hk v h') hp
 case makeSlice=>exact F3 (fun v h'=>hk v h') hp
 case makeMap t r=>
  cases r<;>simp only at hp ⊢
  exact Dz (fun v h'=>hk v h') hp
 case mapUpdate=>exact qW (fun h'=>hk aa h') hp
 case insert=>exact qW (fun h'=>hk aa h') hp
 case range=>exact zb (fun v h'=>hk v h') hp
 case next x b=>
  cases b<;>simp only at hp ⊢
  exact BO (fun v h'=>hk v h') hp
 case panic=>unfold tD at *;split at hp<;>simp_all
 case defer c=>cases ho
 case call c=>
  split at hp
  ·exact DC (fun v h'=>hk v h') hp
  split at hp
  ·exact BP (fun v h'=>hk v h') hp
  ·split at hp
   ·exact Gt (fun v h'=>hk v h') Fq hp
   ·exact hp.elim
theorem AM(s:St)(d:Option Nat)(v:AV):(s.put N d v).ds=s.ds:=by
 unfold St.put
 split
 ·rfl
 ·split<;>rfl
section
variable {ds:List fR} {QP gp:cL}
theorem R8(fL:∀v h,QP ds v h->gp ds v h){Hd:Nat->Prop}{held:Bool}{o:Oper}(ho:ni o=true){K K':St->AH->Prop}(hk:∀s h,s.ds=ds->K s h->K' s h){s:St}{h:AH}(hs:s.ds=ds)(hp:qZ P N W Hd QP held o K s h) :
  qZ P N W Hd gp held o K' s h:=by
 unfold qZ at *
 split at hp
 ·refine qOp_mono (fun v d _ hh=>?_) hp
  unfold eQ at *
  split at hh
  ·exact hk _ _ (by rw[AM];exact hs) hh
  ·exact⟨hh.1,hk _ _ (by rw[AM];exact hs) hh.2⟩
 ·exact W7 ho (fun v h'=>hk _ _ (by rw[AM];exact hs)) (fun v h'=>by rw[hs];exact fL v h') hp
theorem xX(fL:∀v h,QP ds v h->gp ds v h){Wf:Nat->Nat->Prop}{Hd:Nat->Nat->Prop}{ops:Array Oper}(ho:ops.all ni=true):∀(is:List (Nat×Bool)){K K':St->AH->Prop},(∀s h,s.ds=ds->K s h->K' s h)->∀{s:St}{h:AH},s.ds=ds->mu P N Wf Hd QP ops is K s h->mu P N Wf Hd gp ops is K' s h
 |[],_,_,hk,_,_,hs,hp=>hk _ _ hs hp
 |x::is,K,K',hk,s,h,hs,hp=>by
  simp only[mu]at hp ⊢
  split at hp
  ·rename_i o hx
   exact R8 fL (Array.all_eq_true_iff_forall_mem.1 ho o (Array.mem_of_getElem? hx)) (fun s h hs=>xX fL ho is hk hs) hs hp
  ·exact hp.elim
theorem JH{ops:Array Oper}:∀(is:List (Nat×Bool))(s:St),(ym N ops is s).ds=s.ds
 |[],_=>rfl
 |x::is,s=>by simp only[ym];rw[JH is,AM]
theorem BM(fL:∀v h,QP ds v h->gp ds v h){Wf:Nat->Nat->Prop}{Hd:Nat->Nat->Prop}{ops:Array Oper}(ho:ops.all ni=true):∀(gs:List (Option (Nat×Bool)×List (Nat×Bool))){K K':St->AH->Prop},(∀s h,s.ds=ds->K s h->K' s h)->∀{s:St}{h:AH},s.ds=ds->kX P N Wf Hd QP ops gs K s h->kX P N Wf Hd gp ops gs K' s h
 |[],_,_,hk,_,_,hs,hp=>hk _ _ hs hp
 |(none,is)::gs,K,K',hk,s,h,hs,hp=>by
  simp only[kX]at hp ⊢
  exact xX fL ho is (fun s h hs=>BM fL ho gs hk hs) hs hp
 |(some (j,want),is)::gs,K,K',hk,s,h,hs,hp=>by
  simp only[kX]at hp ⊢
  split at hp
  ·exact Gr (xX fL ho is (fun s h hs=>BM fL ho gs hk hs) hs) (BM fL ho gs hk (by rw[JH];exact hs)) hp
  ·exact hp.elim
mutual
theorem W4(fL:∀v h,QP ds v h->gp ds v h){Wf:Nat->Nat->Prop}{Hd:Nat->Nat->Prop}{ops:Array Oper}(ho:ops.all ni=true){K K':St->AH->Prop}(hk:∀s h,s.ds=ds->K s h->K' s h):∀(w:Way){s:St}{h:AH},s.ds=ds->xl P N Wf Hd QP ops w K s h->xl P N Wf Hd gp ops w K' s h
 |.mk path [],s,h,hs,hp=>by
  unfold xl at hp ⊢
  exact xX fL ho path hk hs hp
 |.mk path (w::ws),s,h,hs,hp=>by
  unfold xl at hp ⊢
  exact xX fL ho path (fun s h hs=>FV fL ho hk (w::ws) hs) hs hp
termination_by w=>SizeOf.sizeOf w
theorem FV(fL:∀v h,QP ds v h->gp ds v h){Wf:Nat->Nat->Prop}{Hd:Nat->Nat->Prop}{ops:Array Oper}(ho:ops.all ni=true){K K':St->AH->Prop}(hk:∀s h,s.ds=ds->K s h->K' s h):∀(ws:List Way){s:St}{h:AH},s.ds=ds->nI P N Wf Hd QP ops ws K s h->nI P N Wf Hd gp ops ws K' s h
 |[],s,h,hs,hp=>by unfold nI;trivial
 |w::r,s,h,hs,hp=>by
  unfold nI at hp ⊢
  exact⟨W4 fL ho hk w hs hp.1,FV fL ho hk r hs hp.2⟩
termination_by ws=>SizeOf.sizeOf ws
end
theorem Qy(fL:∀v h,QP ds v h->gp ds v h){Wf:Nat->Nat->Prop}{Hd:Nat->Nat->Prop}{ops:Array Oper}(ho:ops.all ni=true){K K':St->AH->Prop}(hk:∀s h,s.ds=ds->K s h->K' s h){s:St}{h:AH}{p:tE}(hs:s.ds=ds)(hp:sZ P N Wf Hd QP ops p K s h):sZ P N Wf Hd gp ops p K' s h:=by
 unfold sZ at *
 split at hp
 ·exact BM fL ho _ hk hs hp
 ·exact BM fL ho _ (fun s h hs=>FV fL ho hk _ hs) hs hp
theorem LN(fL:∀v h,QP ds v h->gp ds v h){ops:Array Oper}(ho:ops.all ni=true){id:Nat}{K K':St->AH->Prop}(hk:∀s h,s.ds=ds->K s h->K' s h){s:St}{h:AH}(hs:s.ds=ds)(hp:lc P N W QP pl id ops K s h) :
  lc P N W gp pl id ops K' s h:=by
 unfold lc at *
 split at hp
 ·exact xX fL ho _ hk hs hp
 ·split at hp
  ·exact Qy fL ho hk hs hp
  ·obtain⟨Hd,h1,h2⟩:=hp;exact⟨Hd,h1,Qy fL ho hk hs h2⟩
theorem G0{K K':St->AH->Prop}{Q Q':c7}(hk:∀s h,s.ds=ds->K s h->K' s h)(hq:∀x s h,s.ds=ds->Q x s h->Q' x s h):∀x s h,s.ds=ds->cC K Q x s h->cC K' Q' x s h:=by
 intro x s h hs hp
 cases x
 ·exact hk _ _ hs hp
 ·exact hq (.exit _) _ _ hs hp
 ·exact hq (.goto _) _ _ hs hp
 ·exact hq .ret _ _ hs hp
theorem xC(fL:∀v h,QP ds v h->gp ds v h):∀(c:Code){Q Q':c7},sD c=true->(∀x s h,s.ds=ds->Q x s h->Q' x s h)->∀{s:St}{h:AH},s.ds=ds->aw P N W pl c Q QP s h->aw P N W pl c Q' gp s h
 |.skip,_,_,_,hq,_,_,hs,hp=>hq _ _ _ hs hp
 |.label _,_,_,_,hq,_,_,hs,hp=>hq _ _ _ hs hp
 |.exit _,_,_,_,hq,_,_,hs,hp=>hq _ _ _ hs hp
 |.goto _,_,_,_,hq,_,_,hs,hp=>hq _ _ _ hs hp
 |.ret,_,_,_,hq,_,_,hs,hp=>hq _ _ _ hs hp
 |.rangeFunc ..,_,_,_,_,_,_,_,hp=>hp.elim
 |.refuse _,_,_,_,_,_,_,_,hp=>hp.elim
 |.region _ ops _,_,_,hd,hq,_,_,hs,hp=>LN fL hd (hq .normal) hs hp
 |.seq a b,_,_,hd,hq,_,_,hs,hp=>by
  simp only[sD,yC]at hd
  exact xC fL a hd.1 (G0 (fun _ _ hs=>xC fL b hd.2 hq hs) hq) hs hp
 |.cond c a b,_,_,hd,hq,_,_,hs,hp=>by
  simp only[sD,yC]at hd
  exact Gs (xC fL a hd.1 hq hs) (xC fL b hd.2 hq hs) hp
 |.block id c,Q,Q',hd,hq,_,_,hs,hp=>by
  refine xC fL c (Q:=fI id Q) hd ?_ hs hp
  intro x s h hs hp
  cases x with
  |exit j=>
   simp only[fI]at hp ⊢
   split at hp
   ·rename_i he;rw[zX he];exact hq _ _ _ hs hp
   ·rename_i he;rw[zW he];exact hq _ _ _ hs hp
  |normal=>exact hq .normal _ _ hs hp
  |goto l=>exact hq (.goto l) _ _ hs hp
  |ret=>exact hq .ret _ _ hs hp
 |.scope c,Q,Q',hd,hq,_,_,hs,hp=>by
  refine xC fL c (Q:=pn Q) hd ?_ hs hp
  intro x s h hs hp
  cases x with
  |exit j=>exact hq (.exit j) _ _ hs hp
  |normal=>exact hq .normal _ _ hs hp
  |goto l=>exact hp.elim
  |ret=>exact hq .ret _ _ hs hp
 |.loop c,Q,Q',hd,hq,s,h,hs,hp=>by
  obtain⟨n,hp⟩:=hp
  refine⟨n,?_⟩
  have key:∀(n:Nat)(s:St)(h:AH),s.ds=ds->pL (aw P N W pl c) n Q QP s h->pL (aw P N W pl c) n Q' gp s h:=by
   intro n
   induction n with
   |zero=>intro s h _ hp;exact hp.elim
   |succ n ih=>intro s h hs hp;exact xC fL c hd (G0 (fun s h hs=>ih s h hs) hq) hs hp
  exact key n s h hs hp
end
abbrev WK:=Nat->Prop
abbrev EK:=Nat->VK
abbrev PK:=AV->AH->Prop
abbrev kP(QP:AV->AH->Prop):cL:=fun _=>QP
theorem S2{F:c7->cL->St->AH->Prop}{Q:c7}{QP:cL}{L:(Nat->AV)->List AV}{G:VK->VK}
  (hs:∀(Kn:VK)(KQ:St->AH->Prop),(∀s h,KQ s h=Kn (L s.tm) h)->∀s h,F (cC KQ Q) QP s h=G Kn (L s.tm) h):∀s h,l_ F Q QP s h=cY G (L s.tm) h:=by
 intro s h
 have key:∀n s h,pL F n Q QP s h=Az G n (L s.tm) h:=by
  intro n
  induction n with
  |zero=>intro s h;rfl
  |succ n ih=>intro s h;exact hs (Az G n) (fun s h=>pL F n Q QP s h) ih s h
 unfold l_ cY
 exact congrArg Exists (funext fun n=>key n s h)
theorem VM{rs:List ResultVar}{R:AE->AH->Prop}{c:Code}{q:c7}{s:St}{h:AH}(hd:sD c=true)(hq:∀s h,q .ret s h=aJ P rs R (rs.map fun r=>s.tm (ss r)) h)(hn:∀s h,q .normal s h=aJ P rs R (rs.map fun r=>s.tm (ss r)) h)
  (he:∀j s h,¬q (.exit j) s h) (hg:∀l s h,¬q (.goto l) s h) (hs:s.ds=[]) (hp:aw P N W pl c q (kP fun v h=>R (.cg v) h) s h):aw P N W pl c (dP P rs R) (bT R) s h:=by
 refine xC (fun v h hh=>⟨rfl,hh⟩) c hd (fun x s h hs hh=>?_) hs hp
 obtain⟨tm,ds⟩:=s
 simp only at hs
 subst hs
 cases x with
 |ret=>rw[HN];rw[hq]at hh;exact hh
 |normal=>rw[R2];rw[hn]at hh;exact hh
 |exit j=>exact(he j _ _ hh).elim
 |goto l=>exact(hg l _ _ hh).elim
end
section
theorem Fr.jr{h h1:AH}{S:Nat->Prop}(a:Fr h h1 S){id:Nat}{k:Kind}(hs:S id\/h.next<=id):Fr h (h1.jr id k) S:=
 ⟨a.next,fun i hi hn=>by rw[AH.pG,zW (fun e=>by subst e;exact hs.elim hn (fun h=>by omega))];exact a.dH i hi hn⟩
theorem Fr.Ez{h h1:AH}(a:Fr h h1 fun _=>False){id:Nat}{k:Kind}(hs:h.next<=id):Fr h (h1.jr id k) fun _=>False:=a.jr (.inr hs)
theorem decode_ascii(s:ByteArray)(i:Nat)(h:i<s.size)(hc:s[i].toNat<128):Utf8.decode s i=(s[i].toNat,1):=by
 have hg:s.get! i=s[i]:=by
  cases s with
  |mk d=>
   show d[i]! = d[i]'h
   exact getElem!_pos d i h
 unfold Utf8.decode
 simp only[Nat.add_zero,hg]
 rw[zX hc]
theorem ci{h:AH}{i j:Nat}{a b:AO}(hi:h.obj i=some a)(hj:h.obj j=some b)(du:a.ty≠b.ty):i≠j:=fun e=>by subst e;rw[hi]at hj;exact du (by rw[Option.some.inj hj])
theorem bN.aO{α:Type}{f:α->List AV}{sz:Nat}{ty:TypeId}{h h':AH}{S:Nat->Prop}{x:AV}{l:List α}(hl:bN f sz ty h x l)(hf:Fr h h' S)(hx:∀id,x=.sl id 0 l.length->¬S id):bN f sz ty h' x l:=by
 rcases hl with hl |⟨id,rfl,ho⟩
 ·exact .inl hl
 ·exact .inr ⟨id,rfl,hf.obj ho (hx id rfl)⟩
theorem mj(A:List AV):∀(cs B:List AV)(o:Nat),putCells (A++B) (A.length+o) cs=A++putCells B o cs
 |[],B,o=>rfl
 |c::cs,B,o=>by
  simp only[putCells]
  rw[List.set_append_right _ _ (by omega),Nat.add_sub_cancel_left,Nat.add_assoc,mj A cs (B.set o c) (o+1)]
theorem mD:∀(cs X Y:List AV),cs.length=X.length->putCells (X++Y) 0 cs=cs++Y
 |[],X,Y,h=>by have:X=[]:=List.length_eq_zero_iff.1 (by simpa using h.symm);subst this;rfl
 |c::cs,[],Y,h=>by simp at h
 |c::cs,x::X,Y,h=>by
  have h':cs.length=X.length:=by simpa using h
  have:=mj [c] cs (X++Y) 0
  simp only[putCells,List.cons_append,List.set_cons_zero,List.singleton_append,List.nil_append,List.length_singleton,Nat.add_zero,zG]at this ⊢
  rw[this,mD cs X Y h']
theorem qo{α:Type}{f:α->List AV}{k:Nat}(hf:∀x,(f x).length=k)(A B:List α)(x y:α):putCells ((A++x::B).flatMap f) (A.length*k) (f y)=(A++y::B).flatMap f:=by
 simp only[List.flatMap_append,List.flatMap_cons]
 have h1:=mj (A.flatMap f) (f y) (f x++B.flatMap f) 0
 rw[fy hf,Nat.add_zero]at h1
 rw[h1,mD _ _ _ (by rw[hf,hf])]
theorem abU{α:Type}{f:α->List AV}{sz bytes:Nat}{ty:TypeId}{z:List Value}(hf:∀x,(f x).length=sz)(hJ:0<sz)(hz:z.length=sz+sz)(h1:∀x,(f x).all cG=true)(hb:bytes<=1024)
  {h:AH} {s t:α} {W:Nat->Prop} {K:AV->AH->Prop}
  (hK:∀y h',bN f sz ty h' y [s,t]->cP (h.next<=·) y->Fr h h' (fun _=>False)->K y h') :
  dX (some (sz,ty,z)) 2 [(0,.agg (f s)),(1,.agg (f t))] h (fun v h4=>fu (some (sz,bytes,ty)) aW v h4 W K):=by
 have e1:putCells (z.map AV.sc) 0 (f s)=f s++(z.map AV.sc).drop sz:=by
  conv=>lhs;rw[<-List.take_append_drop sz (z.map AV.sc)]
  rw[mD _ _ _ (by rw[hf];simp;omega)]
 have e2:putCells (f s++(z.map AV.sc).drop sz) sz (f t)=f s++f t:=by
  have:=mj (f s) (f t) ((z.map AV.sc).drop sz) 0
  rw[hf,Nat.add_zero]at this
  rw[this]
  have:=mD (f t) ((z.map AV.sc).drop sz) [] (by rw[hf];simp;omega)
  rw[List.append_nil,List.append_nil]at this
  rw[this]
 have iN:dM (fun i=>some (i*sz,sz)) (z.map .sc) [(0,.agg (f s)),(1,.agg (f t))]=some (f s++f t):=by
  simp only[dM,eY,Nat.zero_mul,Nat.one_mul,zG,hf,zH]
  rw[zX (by simp;omega),e1,zX (by simp[hf];omega),e2]
 refine⟨_,⟨iN,by simp only[List.all_append,h1,Bool.and_self]⟩,2,f s++f t,.inr ⟨rfl,_,AH.cm _ _,rfl,by simp[hf];omega,?_⟩,?_⟩
 ·rw[List.drop_zero,List.take_of_length_le (by simp[hf];omega)]
 ·show if 2=0 then _ else _
  rw[zW (by omega)]
  refine⟨⟨by omega,by omega⟩,?_⟩
  refine hK _ _ (.inr ⟨_,rfl,?_⟩) ?_ ((Fr.refl.alloc _).alloc _)
  ·rw[AH.cm];simp[aN]
  ·intro i off n he;cases he;simp only[AH.bZ];omega
theorem Xe{α:Type}{f:α->List AV}{sz bytes:Nat}{ty:TypeId}{z:List Value}(hf:∀x,(f x).length=sz)(hJ:0<sz)(hz:z.length=sz)(h1:∀x,(f x).all cG=true)(hb:bytes<=1024)
  {h:AH} {x:AV} {l:List α} {t:α} {W:Nat->Prop} {K:AV->AV->AH->Prop} (hl:bN f sz ty h x l) (hw:cP W x) (hn:l.length<=100000000)
  (hK:∀v y h',bN f sz ty h' y (l++[t])->cP (h.next<=·) y->Fr h h' (fun i=>∃off n,x=.sl i off n)->K v y h') :
  dX (some (sz,ty,z)) 1 [(0,.agg (f t))] h (fun v h4=>fu (some (sz,bytes,ty)) x v h4 W (K v)):=by
 exact V2 hf hJ hz h1 hb hl hw hn (fun y h' a b c d=>hK (.sl h.next 0 1) y h' a b ⟨d,fun i hi hs=>c i hi (fun off n he=>hs ⟨off,n,he⟩)⟩)
theorem Xc{α:Type}{f:α->List AV}{sz bytes:Nat}{ty:TypeId}{z:List Value}(hf:∀x,(f x).length=sz)(hJ:0<sz)(hz:z.length=sz+sz)(h1:∀x,(f x).all cG=true)(hb:bytes<=1024)
  {h:AH} {s t:α} {W:Nat->Prop} {K:AV->AV->AH->Prop}
  (hK:∀v y h',bN f sz ty h' y [s,t]->cP (h.next<=·) y->Fr h h' (fun _=>False)->K v y h') :
  dX (some (sz,ty,z)) 2 [(0,.agg (f s)),(1,.agg (f t))] h (fun v h4=>fu (some (sz,bytes,ty)) aW v h4 W (K v)):=by
 exact abU hf hJ hz h1 hb (hK (.sl h.next 0 2))
theorem bN.sl{α:Type}{f:α->List AV}{sz:Nat}{ty:TypeId}{h:AH}{y:AV}{l:List α}(hl:bN f sz ty h y l)(du:l≠[]):∃id,y=.sl id 0 l.length:=by
 rcases hl with⟨_,h2⟩ |⟨id,h2,_⟩
 ·exact absurd h2 du
 ·exact⟨id,h2⟩
theorem I_{α:Type}{f:α->List AV}{sz bytes:Nat}{ty:TypeId}{z:List Value}(hf:∀x,(f x).length=sz)(hJ:0<sz)(hz:z.length=sz)(hb:bytes<=1024)
  {h:AH} {x:AV} {l:List α} {t:α} {W:Nat->Prop} {K:AV->AV->AH->Prop} (h1:(f t).all cG=true) (hl:bN f sz ty h x l) (hw:cP W x) (hn:l.length<=100000000)
  (hK:∀y h',bN f sz ty h' y (l++[t])->cP (h.next<=·) y->(∀i,i<h.next->(∀off n,x≠.sl i off n)->h'.obj i=h.obj i)->h.next<=h'.next->K (.sl h.next 0 1) y h') :
  dX (some (sz,ty,z)) 1 [(0,.agg (f t))] h (fun v h4=>fu (some (sz,bytes,ty)) x v h4 W (K v)):=by
 have iN:dM (fun i=>some (i*sz,sz)) (z.map .sc) [(0,.agg (f t))]=some (f t):=by
  simp only[dM,cM,Nat.zero_mul,hf,zZ,hz,zG,zU,and_self,zV]
  rw[my (by simp[hf,hz])]
 refine⟨f t,⟨iN,h1⟩,?_⟩
 have sN:(l.length+1)*bytes<=140737488355328:=by
  have:(l.length+1)*bytes<=100000001*1024:=Nat.mul_le_mul (by omega) hb
  omega
 have ja:((f t).drop 0).take (1*sz)=f t:=by rw[List.drop_zero,List.take_of_length_le (by rw[hf];omega)]
 rcases hl with⟨rfl,rfl⟩ |⟨id,rfl,ho⟩
 ·refine⟨1,f t,.inr ⟨rfl,_,AH.cm _ _,rfl,by simp[hf],ja.symm⟩,?_⟩
  show if 1=0 then _ else _
  rw[zW (by omega)]
  refine⟨⟨by omega,by simpa using sN⟩,?_⟩
  refine hK _ _ (.inr ⟨_,rfl,?_⟩) ?_ ?_ ?_
  ·rw[AH.cm];simp[aN]
  ·intro i off n he;cases he;simp only[AH.bZ];omega
  ·intro i hi _;rw[AH.alloc_old (by simp only[AH.bZ];omega),AH.alloc_old hi]
  ·simp only[AH.bZ];omega
 ·have hid:=h.lt _ _ ho
  refine⟨1,f t,.inr ⟨rfl,_,AH.cm _ _,rfl,by simp[hf],ja.symm⟩,?_⟩
  show if 1=0 then _ else _
  rw[zW (by omega)]
  have hlen:(l.flatMap f).length=l.length*sz:=fy hf l
  refine .inl ⟨rfl,_,⟨hw _ _ _ rfl,by rw[AH.alloc_old hid];exact ho,rfl,rfl,rfl,rfl,by simp[aN,hlen],by omega,sN⟩,?_⟩
  refine hK _ _ (.inr ⟨_,by rw[List.length_append,List.length_singleton],?_⟩) ?_ ?_ ?_
  ·rw[AH.dy,zX (by simp[AH.bZ,AH.jB])]
   simp only[aN,List.flatMap_append,List.flatMap_cons,List.flatMap_nil,List.append_nil]
   rw[List.take_of_length_le (by rw[hlen];exact zU _)]
  ·intro i off n he;cases he;simp only[AH.bZ];omega
  ·intro i hi du
   have:i≠id:=fun e=>du 0 l.length (by rw[e])
   rw[AH.alloc_old (by simp only[AH.bZ,AH.jB];omega),AH.yd this,AH.alloc_old hi]
  ·simp only[AH.bZ,AH.jB];omega
def cH{α:Type}(f:α->List AV)(sz:Nat)(ty:TypeId)(h:AH)(x:AV)(l:List α):Prop:=
 (x=aW/\l=[])\/(∃a c,x=.sc (.slice a 0 c)/\l=[])\/∃id rest ro j3,x=.sl id 0 l.length/\(ro=false->j3=ty)/\h.obj id=some { cells:=l.flatMap f++rest,sz:=sz,ty:=j3,ro:=ro,kind:=.row }
theorem bN.cF{α:Type}{f:α->List AV}{sz:Nat}{ty:TypeId}{h:AH}{x:AV}{l:List α}(hl:bN f sz ty h x l):cH f sz ty h x l:=by
 rcases hl with hl |⟨id,h1,h2⟩
 ·exact .inl hl
 ·exact .inr (.inr ⟨id,[],false,ty,h1,fun _=>rfl,by simpa[aN] using h2⟩)
theorem cH.fr{α:Type}{f:α->List AV}{sz:Nat}{ty:TypeId}{h h':AH}{S:Nat->Prop}{x:AV}{l:List α}(hl:cH f sz ty h x l)(hf:Fr h h' S)(hs:∀id o,h.obj id=some o->(o.ro=false->o.ty=ty)->¬S id):cH f sz ty h' x l:=by
 rcases hl with hl |hl |⟨id,rest,ro,j3,h1,h3,h2⟩
 ·exact .inl hl
 ·exact .inr (.inl hl)
 ·exact .inr (.inr ⟨id,rest,ro,j3,h1,h3,hf.obj h2 (hs id _ h2 h3)⟩)
theorem cH.aU{α:Type}{f:α->List AV}{sz:Nat}{ty:TypeId}{h h':AH}{x:AV}{l:List α}(hl:cH f sz ty h x l)(hf:Fr h h' fun _=>False):cH f sz ty h' x l:=hl.fr hf fun _ _ _ _ h=>h
theorem cH.len{α:Type}{f:α->List AV}{sz:Nat}{ty:TypeId}{h:AH}{x:AV}{l:List α}(hl:cH f sz ty h x l):(ba x=false)/\∀K:AV->Prop,bK x K=K (.sc (.int .i64 l.length)):=by
 rcases hl with⟨rfl,rfl⟩ |⟨a,c,rfl,rfl⟩ |⟨id,rest,ro,j3,rfl,_,_⟩<;>exact⟨rfl,fun _=>rfl⟩
theorem cH.one{α:Type}{f:α->List AV}{sz:Nat}{ty:TypeId}{h:AH}{x:AV}{l:List α}(hl:cH f sz ty h x l):cG x=true/\cM x=some [x]:=by
 rcases hl with⟨rfl,rfl⟩ |⟨a,c,rfl,rfl⟩ |⟨id,rest,ro,j3,rfl,_,_⟩<;>exact⟨rfl,rfl⟩
theorem cH.at_{α:Type}{f:α->List AV}{sz:Nat}{ty:TypeId}{h:AH}{x:AV}{l:List α}(hl:cH f sz ty h x l)(hf:∀y,(f y).length=sz){i:Nat}{y:α}(hy:l[i]?=some y) :
  ∃id cells ro j3,x=.sl id 0 l.length/\h.obj id=some { cells:=cells,sz:=sz,ty:=j3,ro:=ro,kind:=.row }/\(cells.drop (i*sz)).take sz=f y/\i*sz+sz<=cells.length/\∀j,j<sz->cells[i*sz+j]?=(f y)[j]?:=by
 have hi:i<l.length:=(zM.1 hy).1
 rcases hl with⟨_,rfl⟩ |⟨_,_,_,rfl⟩ |⟨id,rest,ro,j3,h1,_,h2⟩
 ·simp at hi
 ·simp at hi
 ·have hlen:(l.flatMap f).length=l.length*sz:=fy hf l
  have hle:i*sz+sz<=(l.flatMap f).length:=by
   rw[hlen,<-Nat.succ_mul]
   exact Nat.mul_le_mul_right _ hi
  refine⟨id,_,ro,j3,h1,h2,?_,by simp only[List.length_append];omega,fun j hj=>?_⟩
  ·rw[List.drop_append_of_le_length (by omega),List.take_append_of_le_length (by rw[List.length_drop];omega)]
   exact sY hf l i y hy
  ·rw[List.getElem?_append_left (by omega),fm hf l i j hj,hy];rfl
variable {P:Program} {α:Type} {f:α->List AV} {sz:Nat} {ty:TypeId} {h:AH} {x:AV} {l:List α} {i:Nat} {y:α} {W:Nat->Prop}
theorem gO{K:AV->Nat->Prop}(hl:cH f sz ty h x l)(hf:∀y,(f y).length=sz)(hi:l[i]?=some y)(hK:∀q,K (.agg (f y)) q) :
  br (some (sz,none)) x (.sc (.int .i64 i)) fun t=>al (some true) (some sz) t h K:=by
 have aR:i<l.length:=(zM.1 hi).1
 obtain⟨id,cells,ro,j3,rfl,ho,h1,h2,_⟩:=hl.at_ hf hi
 simp only[kL,oF,ho,mG,zG,zY]
 refine⟨⟨by omega,by omega⟩,h2,?_⟩
 rw[h1];exact hK _
theorem dn{K:AV->Nat->Prop}{k:Nat}{v:AV}(hl:cH f sz ty h x l)(hf:∀y,(f y).length=sz)(hi:l[i]?=some y)(hk:k<sz)(hv:(f y)[k]?=some v)(hK:∀q,K v q) :
  br (some (sz,none)) x (.sc (.int .i64 i)) fun t=>ai (some k) t fun t=>al (some false) (some 1) t h K:=by
 have aR:i<l.length:=(zM.1 hi).1
 obtain⟨id,cells,ro,j3,rfl,ho,h1,h2,h3⟩:=hl.at_ hf hi
 simp only[kL,ag,au,ho,ao,zG,zY]
 refine⟨⟨by omega,by omega⟩,?_⟩
 rw[h3 _ hk,hv];exact hK _
theorem gZ{K:AV->Nat->Prop}{v:AV}(hl:cH f 1 ty h x l)(hf:∀y,(f y).length=1)(hi:l[i]?=some y)(hv:f y=[v])(hK:∀q,K v q) :
  br (some (1,none)) x (.sc (.int .i64 i)) fun t=>al (some false) (some 1) t h K:=by
 have aR:i<l.length:=(zM.1 hi).1
 obtain⟨id,cells,ro,j3,rfl,ho,h1,h2,h3⟩:=hl.at_ hf hi
 have h4:=h3 0 (by omega)
 rw[Nat.mul_one]at h4
 simp only[kL,au,ho,ao,zG,zY,Nat.mul_one]
 refine⟨⟨by omega,by omega⟩,?_⟩
 rw[show i=i+0 by omega,h4,hv];exact hK _
theorem fV{K:AV->AH->Prop}{z:List Value}(hl:cH f sz ty h x l)(hf:∀y,(f y).length=sz)(ho:(f y).all cG=true)(hi:l[i]?=some y)(hz:z.all (·.oneCell')=true)(hn:z.length=sz)(hW:∀id,h.next<=id->W id)
  (hK:∀vn h',Fr h h' (fun _=>False)->h.next<=vn->h'.obj vn=some (aN (f y) sz ty)->K (.ptr vn 0) h') :
  br (some (sz,none)) x (.sc (.int .i64 i)) fun t=>al (some true) (some sz) t h fun v _=>bw (some z) sz ty h fun p h1=>aG (some sz) p v h1 W fun h2=>K p h2:=by
 refine gO hl hf hi fun q=>?_
 have hv:=AH.cm h (aN (z.map AV.sc) sz ty)
 simp only[aX,aF,hv,eY,bG]
 refine⟨hz,⟨hW _ (zU _),ho,hf _,by simp[hn]⟩,?_⟩
 refine hK _ _ ((Fr.refl.alloc _).put (.inr (zU _))) (zU _) ?_
 rw[pj hv]
 congr 1
 simp only[aN]
 congr 1
 exact my (by simp[hn,hf])
theorem di{K:AV->Nat->Prop}{cs:List AV}{vn:Nat}(ho:h.obj vn=some (aN cs sz ty))(hc:cs.length=sz)(hK:∀q,K (.agg cs) q):al (some true) (some sz) (.ptr vn 0) h K:=by
 simp only[oF,ho,mG,zG,List.drop_zero]
 refine⟨by omega,?_⟩
 rw[List.take_of_length_le (by omega)];exact hK _
theorem eD{K:AV->Nat->Prop}{cs:List AV}{vn k:Nat}{v:AV}(ho:h.obj vn=some (aN cs sz ty))(hv:cs[k]?=some v)(hK:∀q,K v q):ai (some k) (.ptr vn 0) fun t=>al (some false) (some 1) t h K:=by
 simp only[ag,au,ho,ao,zG,hv];exact hK _
theorem dB{K:AV->AH->Prop}{cs:List AV}(ho:cs.all cG=true)(hK:∀vn h',Fr h h' (fun _=>False)->h.next<=vn->h'.obj vn=some (aN cs sz ty)->K (.ptr vn 0) h'):eI sz ty (.agg cs) h K:=
 ⟨cs,rfl,ho,hK _ _ (Fr.refl.alloc _) (zU _) (AH.cm h _)⟩
theorem g_{K:AV->AH->Prop}{z:List Value}{cs:List AV}(ho:cs.all cG=true)(hc:cs.length=sz)(hz:z.all (·.oneCell')=true)(hn:z.length=sz)(hW:∀id,h.next<=id->W id)
  (hK:∀vn h',Fr h h' (fun _=>False)->h.next<=vn->h'.obj vn=some (aN cs sz ty)->K (.ptr vn 0) h') :
  bw (some z) sz ty h fun p h1=>aG (some sz) p (.agg cs) h1 W fun h2=>K p h2:=by
 have hv:=AH.cm h (aN (z.map AV.sc) sz ty)
 simp only[aX,aF,hv,eY,bG]
 refine⟨hz,⟨hW _ (zU _),ho,hc,by simp[hn]⟩,?_⟩
 refine hK _ _ ((Fr.refl.alloc _).put (.inr (zU _))) (zU _) ?_
 rw[pj hv]
 congr 1
 simp only[aN]
 congr 1
 exact my (by simp[hn,hc])
theorem Fr.bX{h h1 h2:AH}(a:Fr h h1 fun _=>False)(b:Fr h1 h2 fun _=>False):Fr h h2 fun _=>False:=a.trans (b.mono fun _ h=>h.elim)
theorem Fr.bM{h h1:AH}(a:Fr h h1 fun _=>False){id:Nat}{o:AO}(ho:h.obj id=some o):h1.obj id=some o:=a.obj ho fun h=>h
section
variable {α:Type} {f:α->List AV} {sz bytes:Nat} {ty:TypeId} {h:AH} {h0:AH} {W:Nat->Prop} {K:AV->AH->Prop} {id:Nat}
theorem Ly{n m:Nat}{K:AV->Prop}(h:n<=m)(hK:K (.sl id 0 n)):oE (some sz) (.sl id 0 m) none (some (.sc (.int .i64 n))) h0 K:=by
 refine⟨0,n,rfl,rfl,⟨by omega,by omega,.inl ⟨rfl,by omega⟩⟩,?_⟩
 simpa using hK
end
theorem pA{sz:Nat}{ty:TypeId}{z:List Value}{len:Nat}{parts:List (Nat×AV)}{cells:List AV}{h:AH}{K:AV->AH->Prop}(hf:dM (fun i=>some (i*sz,sz)) (z.map .sc) parts=some cells/\cells.all cG=true)
  (hK:∀id h',Fr h h' (fun _=>False)->h.next<=id->h'.obj id=some (aN cells sz ty)->K (.sl id 0 len) h'):dX (some (sz,ty,z)) len parts h K:=
 ⟨cells,hf,hK _ _ (Fr.refl.alloc _) (zU _) (AH.cm h _)⟩
theorem pq(x y:Int):(x != y)=!decide (x=y):=by by_cases h:x=y<;>simp[h]
abbrev B(b:Bool):AV:=.sc (.bool b)
abbrev I(n:Int):AV:=.sc (.int .i64 n)
abbrev U(n:Int):AV:=.sc (.int .u64 n)
abbrev Sb(s:ByteArray):AV:=.sc (.string s)
end
section
variable {P:Program} {κ:Type} {enc:κ->AV} {kt et:TypeId} {h:AH} {id:Nat} {l:List (κ×AV)} {n:κ} {z v:AV} {ok:Bool} {ty:TypeId}
def vg[DecidableEq κ](P:Program)(kt:TypeId)(enc:κ->AV):Prop:=∀a b,jO P kt (enc a) (enc b)=some (decide (a=b))
theorem M_(hs:iM P kt=true):vg P kt Sb:=fun a b=>by simp[jO,hs]
theorem RJ(hf:kW P kt=some [true,false]):vg P kt (fun x:ByteArray×Int=>AV.agg [Sb x.1,I x.2]):=fun a b=>by
 obtain⟨a1,a2⟩:=a
 obtain⟨b1,b2⟩:=b
 simp only[jO,hf,gS,Option.bind_some,List.length_cons,List.length_nil,and_self,zV,yB,Bool.and_true,Prod.mk.injEq]
 by_cases h1:a1=b1<;>by_cases h2:a2=b2<;>simp[h1,h2]
def fl[DecidableEq κ](n:κ):List (κ×AV)->Option AV
 |[]=>none
 |(k,v)::l=>if n=k then some v else fl n l
abbrev PB(enc:κ->AV)(l:List (κ×AV)):List (AV×AV):=l.map fun x=>(enc x.1,x.2)
abbrev lQ(enc:κ->AV)(ty:TypeId)(l:List (κ×AV)):AO:={ cells:=[],sz:=0,ty:=ty,kind:=.map (PB enc l) }
theorem Cn[DecidableEq κ](hk:vg P kt enc)(n:κ):∀(l:List (κ×AV))(i:Nat),(∃j v,fl n l=some v/\mF P kt (enc n) (PB enc l) i=some (some (j,v)))\/(fl n l=none/\mF P kt (enc n) (PB enc l) i=some none)
 |[],i=>.inr ⟨rfl,rfl⟩
 |(k,v)::l,i=>by
  simp only[fl,List.map_cons,mF,hk n k]
  by_cases e:n=k
  ·rw[zX e,zL e]
   exact .inl ⟨i,v,rfl,rfl⟩
  ·rw[zW e,zK e]
   exact Cn hk n l (i+1)
theorem He[DecidableEq κ](hk:vg P kt enc):qU P kt (enc n)=true:=by unfold qU;rw[hk];rfl
def gR(ok:Bool)(z:AV):Option AV->AV
 |some v=>if ok then .dY [v,.b true] else v
 |none=>if ok then .dY [z,.b false] else z
theorem Rz[DecidableEq κ]{K:AV->Prop}(hk:vg P kt enc)(hz:n_ P et=some z)(hK:K (gR ok z (fl n l))):xR P (kt,et) (PB enc l) (enc n) ok K:=by
 refine⟨He hk,?_⟩
 rcases Cn hk n l 0 with⟨j,v,h1,h2⟩ |⟨h1,h2⟩
 ·rw[h1]at hK
  exact⟨_,z,h2,hz,hK⟩
 ·rw[h1]at hK
  exact⟨_,z,h2,hz,hK⟩
theorem iQ[DecidableEq κ]{K:AV->Option Nat->Prop}(hk:vg P kt enc)(hz:n_ P et=some z)(ho:h.obj id=some (lQ enc ty l))(hK:∀d,K (gR ok z (fl n l)) d):gH P (some (kt,et)) (.mp id) (enc n) ok h K:=
 ⟨_,_,⟨ho,rfl⟩,Rz hk hz (hK _)⟩
theorem uC[DecidableEq κ]{W:Nat->Prop}{K:AH->Prop}(hk:vg P kt enc)(hW:W id)(ho:h.obj id=some (lQ enc ty l))(hn:fl n l=none)
  (hK:∀h',h'.obj id=some (lQ enc ty (l++[(n,v)]))->Fr h h' (·=id)->K h'):eH P (some (kt,et)) (.mp id) (enc n) v h W K:=by
 rcases Cn hk n l 0 with⟨j,v,h1,h2⟩ |⟨h1,h2⟩
 ·rw[hn]at h1;cases h1
 ·refine⟨_,_,none,⟨hW,ho,rfl,rfl⟩,He hk,h2,hK _ ?_ ?_⟩
  ·rw[AH.pG,zX rfl,ho]
   simp[lQ,TY]
  ·exact Fr.refl.jr (.inl rfl)
theorem Ac{K:AV->AH->Prop}{t:TypeId}(hK:∀id h',h'.obj id=some (lQ enc t [])->h.next<=id->Fr h h' (fun _=>False)->K (.mp id) h'):qw t h K:=
 hK _ _ (AH.cm h _) (zU _) (Fr.refl.alloc _)
theorem NP[DecidableEq κ]{a b:List (κ×AV)}:fl n (a++b)=(fl n a).or (fl n b):=by
 induction a with
 |nil=>rfl
 |cons x a ih=>
  obtain⟨k,w⟩:=x
  simp only[List.cons_append,fl]
  by_cases e:n=k
  ·rw[zX e,zX e];rfl
  ·rw[zW e,zW e,ih]
theorem Ai[DecidableEq κ]{α:Type}{f:α->κ}{g:α->AV}:∀{l:List α},fl n (l.map fun x=>(f x,g x))=(l.find? fun x=>decide (f x=n)).map g
 |[]=>rfl
 |x::l=>by
  simp only[List.map_cons,fl,List.find?_cons]
  by_cases e:n=f x
  ·rw[zX e,zL e.symm];rfl
  ·rw[zW e,zK (fun h=>e h.symm)];exact Ai
theorem pB{α:Type}{f:α->List AV}{sz bytes:Nat}{ty:TypeId}{z:List Value}(hf:∀x,(f x).length=sz)(hJ:0<sz)(hz:z.length=sz)(hb:bytes<=1024)
  {h:AH} {x:AV} {l:List α} {t:α} {W:Nat->Prop} {K:AV->AV->AH->Prop} {v0:AV} (hv:cM v0=some (f t)) (h1:(f t).all cG=true) (hl:bN f sz ty h x l) (hw:cP W x) (hn:l.length<=100000000)
  (hK:∀y h',bN f sz ty h' y (l++[t])->cP (h.next<=·) y->Fr h h' (fun i=>∃off n,x=.sl i off n)->K (.sl h.next 0 1) y h') :
  dX (some (sz,ty,z)) 1 [(0,v0)] h (fun v h4=>fu (some (sz,bytes,ty)) x v h4 W (K v)):=by
 have Ys:∀y h',bN f sz ty h' y (l++[t])->cP (h.next<=·) y->(∀i,i<h.next->(∀off n,x≠.sl i off n)->h'.obj i=h.obj i)->h.next<=h'.next->K (.sl h.next 0 1) y h':=fun y h' a b c d=>hK y h' a b ⟨d,fun i hi hs=>c i hi (fun off n he=>hs ⟨off,n,he⟩)⟩
 have iN:dM (fun i=>some (i*sz,sz)) (z.map .sc) [(0,v0)]=some (f t):=by
  simp only[dM,hv,Nat.zero_mul,hf,zZ,hz,zG,zU,and_self,zV]
  rw[my (by simp[hf,hz])]
 refine⟨f t,⟨iN,h1⟩,?_⟩
 have sN:(l.length+1)*bytes<=140737488355328:=by
  have:(l.length+1)*bytes<=100000001*1024:=Nat.mul_le_mul (by omega) hb
  omega
 have ja:((f t).drop 0).take (1*sz)=f t:=by rw[List.drop_zero,List.take_of_length_le (by rw[hf];omega)]
 rcases hl with⟨rfl,rfl⟩ |⟨id,rfl,ho⟩
 ·refine⟨1,f t,.inr ⟨rfl,_,AH.cm _ _,rfl,by simp[hf],ja.symm⟩,?_⟩
  show if 1=0 then _ else _
  rw[zW (by omega)]
  refine⟨⟨by omega,by simpa using sN⟩,?_⟩
  refine Ys _ _ (.inr ⟨_,rfl,?_⟩) ?_ ?_ ?_
  ·rw[AH.cm];simp[aN]
  ·intro i off n he;cases he;simp only[AH.bZ];omega
  ·intro i hi _;rw[AH.alloc_old (by simp only[AH.bZ];omega),AH.alloc_old hi]
  ·simp only[AH.bZ];omega
 ·have hid:=h.lt _ _ ho
  refine⟨1,f t,.inr ⟨rfl,_,AH.cm _ _,rfl,by simp[hf],ja.symm⟩,?_⟩
  show if 1=0 then _ else _
  rw[zW (by omega)]
  have hlen:(l.flatMap f).length=l.length*sz:=fy hf l
  refine .inl ⟨rfl,_,⟨hw _ _ _ rfl,by rw[AH.alloc_old hid];exact ho,rfl,rfl,rfl,rfl,by simp[aN,hlen],by omega,sN⟩,?_⟩
  refine Ys _ _ (.inr ⟨_,by rw[List.length_append,List.length_singleton],?_⟩) ?_ ?_ ?_
  ·rw[AH.dy,zX (by simp[AH.bZ,AH.jB])]
   simp only[aN,List.flatMap_append,List.flatMap_cons,List.flatMap_nil,List.append_nil]
   rw[List.take_of_length_le (by rw[hlen];exact zU _)]
  ·intro i off n he;cases he;simp only[AH.bZ];omega
  ·intro i hi du
   have:i≠id:=fun e=>du 0 l.length (by rw[e])
   rw[AH.alloc_old (by simp only[AH.bZ,AH.jB];omega),AH.yd this,AH.alloc_old hi]
  ·simp only[AH.bZ,AH.jB];omega
def TW(T:TypeId->Bool)(n0:Nat)(h:AH)(id:Nat):Prop:=n0<=id/\∃o,h.obj id=some o/\o.ro=false/\T o.ty=true
theorem TW.trans{T:TypeId->Bool}{n0:Nat}{h h1 h2:AH}(a:Fr h h1 (TW T n0 h))(b:Fr h1 h2 (TW T n0 h1)):Fr h h2 (TW T n0 h):=by
 refine⟨zR a.next b.next,fun id eL ft=>?_⟩
 have e1:=a.dH id eL ft
 rw[b.dH id (Nat.lt_of_lt_of_le eL a.next) ?_,e1]
 rintro⟨h3,o,h4,h5⟩
 exact ft ⟨h3,o,by rw[<-e1];exact h4,h5⟩
theorem TW.aO{T:TypeId->Bool}{n0:Nat}{h h1:AH}(a:Fr h h1 fun _=>False):Fr h h1 (TW T n0 h):=a.mono fun _ h=>h.elim
theorem TW.iO{T:TypeId->Bool}{n0 id:Nat}{h h1:AH}{o:AO}(a:Fr h h1 (·=id))(hn:n0<=id)(ho:h.obj id=some o)(hr:o.ro=false)(ht:T o.ty=true):Fr h h1 (TW T n0 h):=a.mono fun i e=>by subst e;exact⟨hn,o,ho,hr,ht⟩
theorem TW.back{T:TypeId->Bool}{n0:Nat}{h h':AH}(hf:Fr h h' (TW T n0 h)){id:Nat}(hs:TW T n0 h' id):TW T n0 h id\/h.next<=id:=by
 by_cases hl:id<h.next
 ·refine .inl (Classical.byContradiction fun hc=>hc ?_)
  obtain⟨h1,o,h2,h3⟩:=hs
  exact⟨h1,o,by rw[<-hf.dH id hl hc];exact h2,h3⟩
 ·exact .inr (by omega)
theorem TW.no{T:TypeId->Bool}{n0:Nat}{h:AH}{id:Nat}{o:AO}(ho:h.obj id=some o)(h1:o.ro=false->T o.ty=false):¬TW T n0 h id:=by
 rintro⟨_,o',h3,h5,h4⟩
 rw[ho]at h3;cases h3
 rw[h1 h5]at h4;cases h4
theorem TW.obj{T:TypeId->Bool}{n0:Nat}{h h':AH}(hf:Fr h h' (TW T n0 h)){id:Nat}{o:AO}(ho:h.obj id=some o)(h1:T o.ty=false):h'.obj id=some o:=hf.obj ho (TW.no ho fun _=>h1)
theorem cH.oO{T:TypeId->Bool}{n0:Nat}{α:Type}{f:α->List AV}{sz:Nat}{ty:TypeId}{h h':AH}{x:AV}{l:List α}(hl:cH f sz ty h x l)(hf:Fr h h' (TW T n0 h))(ht:T ty=false):cH f sz ty h' x l:=hl.fr hf fun _ _ ho qC=>TW.no ho fun hr=>by rw[qC hr];exact ht
theorem bN.oO{T:TypeId->Bool}{n0:Nat}{α:Type}{f:α->List AV}{sz:Nat}{ty:TypeId}{h h':AH}{x:AV}{l:List α}(hl:bN f sz ty h x l)(hf:Fr h h' (TW T n0 h))(ht:T ty=false):bN f sz ty h' x l:=by
 rcases hl with hl |⟨id,h1,h2⟩
 ·exact .inl hl
 ·exact .inr ⟨id,h1,TW.obj hf h2 ht⟩
theorem Fr.Mv{h h1:AH}{S:Nat->Prop}(a:Fr h h1 S){id:Nat}{k:Kind}(hs:S id\/h.next<=id):Fr h (h1.jr id k) S:=a.jr hs
theorem VY{id:Nat}:cM (.mp id)=some [.mp id]:=rfl
theorem VW:cM (.sc (.map none))=some [.sc (.map none)]:=rfl
attribute [simp] VY VW
end
section
structure Bd where
 P:Program
 N:Nat
 pl:eS
structure Cx where
 W:WK
 R:VK
 N:VK
 E:EK
 P:PK
abbrev GK:=WK->VK->VK->EK->PK->VK->VK
def u0:Code->Code
 |.seq a _ |.cond _ a _ |.block _ a |.loop a |.scope a=>a
 |c=>c
def u1:Code->Code
 |.seq _ b |.cond _ _ b=>b
 |c=>c
def uc:Code->Operand
 |.cond o _ _=>o
 |_=>.tmp 0
def uo:Code->Array Oper
 |.region _ o _=>o
 |_=>#[]
def ui:Code->Nat
 |.region i _ _=>i
 |_=>0
def ud:Code->Bool
 |.region _ _ d=>d
 |_=>false
abbrev TB(B:Bd)(W:WK)(QP:cL)(x:Code)(q:c7)(f:KT):Prop:=aw B.P B.N W B.pl x q QP=f
abbrev RK:=AE->AH->Prop
def fr:Nat->Nat->List (Nat×Bool)
 |_,0=>[]
 |a,n+1=>(a,false)::fr (a+1) n
abbrev OK:=WK->c7->cL->St->AH->Prop
def zu:List Nat->WK->Nat->WK
 |[],W=>fun _=>W
 |a::l,W=>CY (a::l) fun _=>W
def xh(B:Bd)(x:Code):tE:=(rD B.pl (ui x)).getD ⟨[],false,[],[]⟩
def gi(g:CE):List (Nat×Bool):=(g.head?.map (·.2)).getD []
def gj(g:CE):Nat:=((g.head?.bind (·.1)).map (·.1)).getD 0
def gw(g:CE):Bool:=((g.head?.bind (·.1)).map (·.2)).getD false
abbrev TG(B:Bd)(W:WK)(QP:cL)(x:Code)(g:CE)(K f:KT):Prop:=kX B.P B.N (zu (xh B x).pure W) kN QP (uo x) g K=f
section
variable {B:Bd} {W:WK} {QP:cL} {x:Code} {q:c7} {K:KT} {g:CE}
theorem sq(f:KT)(hb:TB B W QP (u1 x) q K)(e:(x,aw B.P B.N W B.pl (u0 x) (cC K q) QP)=(.seq (u0 x) (u1 x),f):=by kernel_rfl):TB B W QP x q f:=by
 obtain⟨e1,e2⟩:=Prod.mk.inj e
 unfold TB at *;subst hb;rw[e1];exact e2
theorem sl(f:KT)(e:(x,aw B.P B.N W B.pl (u0 x) (cC (aw B.P B.N W B.pl (u1 x) q QP) q) QP)=(.seq (u0 x) (u1 x),f):=by kernel_rfl):TB B W QP x q f:=sq f rfl e
theorem sn{f:KT}(hb:TB B W QP (u1 x) q K)(ha:TB B W QP (u0 x) (cC K q) f)(e:x=.seq (u0 x) (u1 x):=by kernel_rfl):TB B W QP x q f:=by
 unfold TB at *;subst hb;rw[e];exact ha
theorem cd(f:KT){A A':KT}(hA:TB B W QP (u0 x) q A)(hB:TB B W QP (u1 x) q A')(e:(x,fun s h=>aH (l8 s (uc x)) (A s h) (A' s h))=(.cond (uc x) (u0 x) (u1 x),f):=by kernel_rfl):TB B W QP x q f:=by
 obtain⟨e1,e2⟩:=Prod.mk.inj e
 unfold TB at *;subst hA hB;rw[e1];exact e2
theorem bk{f:KT}(i:Nat)(ha:TB B W QP (u0 x) (fI i q) f)(e:x=.block i (u0 x):=by kernel_rfl):TB B W QP x q f:=by unfold TB at *;rw[e];exact ha
theorem sp{f:KT}(ha:TB B W QP (u0 x) (pn q) f)(e:x=.scope (u0 x):=by kernel_rfl):TB B W QP x q f:=by unfold TB at *;rw[e];exact ha
theorem sm(f:KT)(e:aw B.P B.N W B.pl x q QP=f:=by kernel_rfl):TB B W QP x q f:=e
theorem tr:TB B W QP x q (aw B.P B.N W B.pl x q QP):=rfl
theorem gr{f:KT}(hr:TG B W QP x (xh B x).gP (q .normal) f)(e:(x,rD B.pl (ui x))=(.region (ui x) (uo x) (ud x),some ⟨(xh B x).gP,false,[],(xh B x).pure⟩):=by kernel_rfl):TB B W QP x q f:=by
 obtain⟨e1,e2⟩:=Prod.mk.inj e
 unfold TB TG at *;subst hr;rw[e1]
 funext s h
 cases hp:(xh B x).pure with
 |nil=>rw[hp]at e2;rw[LD e2,<-e1,hp];rfl
 |cons a l=>rw[hp]at e2;rw[Gh e2,<-e1,hp];rfl
theorem gn(f:KT){C:KT}(hr:TG B W QP x g.tail K C)(e:(g,mu B.P B.N (zu (xh B x).pure W) kN QP (uo x) (gi g) C)=((none,gi g)::g.tail,f):=by kernel_rfl):TG B W QP x g K f:=by
 obtain⟨e1,e2⟩:=Prod.mk.inj e
 unfold TG at *;subst hr;rw[e1];exact e2
theorem gl(f:KT)(e:(g,mu B.P B.N (zu (xh B x).pure W) kN QP (uo x) (gi g) K)=([(none,gi g)],f):=by kernel_rfl):TG B W QP x g K f:=by
 obtain⟨e,e2⟩:=Prod.mk.inj e
 unfold TG;rw[e];exact e2
theorem gx(f:KT){C:KT}(hr:TG B W QP x g.tail K C)(e:(g,il (uo x) (gj g),fun s h=>bF (gw g) (s.tm ((il (uo x) (gj g)).getD 0)) (mu B.P B.N (zu (xh B x).pure W) kN QP (uo x) (gi g) C s h) (C (ym B.N (uo x) (gi g) s) h))=((some (gj g,gw g),gi g)::g.tail,some ((il (uo x) (gj g)).getD 0),f):=by kernel_rfl):TG B W QP x g K f:=by
 obtain⟨e1,e3⟩:=Prod.mk.inj e
 obtain⟨e2,e4⟩:=Prod.mk.inj e3
 unfold TG at *;subst hr;rw[<-e4];clear e e3 e4
 generalize hd:(il (uo x) (gj g)).getD 0=d at *
 generalize gj g=j at *
 generalize gw g=w at *
 generalize gi g=i at *
 generalize List.tail g=t at *
 subst e1
 funext s h
 simp only[kX,e2]
theorem gy(f:KT)(e:(g,il (uo x) (gj g),fun s h=>bF (gw g) (s.tm ((il (uo x) (gj g)).getD 0)) (mu B.P B.N (zu (xh B x).pure W) kN QP (uo x) (gi g) K s h) (K (ym B.N (uo x) (gi g) s) h))=([(some (gj g,gw g),gi g)],some ((il (uo x) (gj g)).getD 0),f):=by kernel_rfl):TG B W QP x g K f:=by
 obtain⟨e1,e3⟩:=Prod.mk.inj e
 obtain⟨e2,e4⟩:=Prod.mk.inj e3
 unfold TG;rw[<-e4];clear e e3 e4
 generalize hd:(il (uo x) (gj g)).getD 0=d at *
 generalize gj g=j at *
 generalize gw g=w at *
 generalize gi g=i at *
 subst e1
 funext s h
 simp only[kX,e2]
theorem gm{C:KT}(hr:TG B W QP x g.tail K C)(e:g=(none,gi g)::g.tail:=by kernel_rfl):TG B W QP x g K (mu B.P B.N (zu (xh B x).pure W) kN QP (uo x) (gi g) C):=gn _ hr (Prod.ext e rfl)
theorem gz{C:KT}(hr:TG B W QP x g.tail K C)(e:(g,il (uo x) (gj g))=((some (gj g,gw g),gi g)::g.tail,some ((il (uo x) (gj g)).getD 0)):=by kernel_rfl):TG B W QP x g K (fun s h=>bF (gw g) (s.tm ((il (uo x) (gj g)).getD 0)) (mu B.P B.N (zu (xh B x).pure W) kN QP (uo x) (gi g) C s h) (C (ym B.N (uo x) (gi g) s) h)):=
 gx _ hr (Prod.ext (Prod.mk.inj e).1 (Prod.ext (Prod.mk.inj e).2 rfl))
theorem lo(f:KT)(e:(x,fun s h=>l_ (aw B.P B.N W B.pl (u0 x)) q QP s h)=(.loop (u0 x),f):=by kernel_rfl):TB B W QP x q f:=by
 obtain⟨e,e2⟩:=Prod.mk.inj e
 unfold TB;rw[e];exact e2
variable {c:Cx}
def lk:List (Nat×List Nat)->Nat->List Nat
 |[],_=>[]
 |(i,l)::r,j=>if j=i then l else lk r j
def Kl(L rs:List Nat)(el:List (Nat×List Nat))(c:Cx):c7
 |.normal,s,h=>c.N (L.map s.tm) h
 |.ret,s,h=>c.R (rs.map s.tm) h
 |.exit j,s,h=>c.E j ((lk el j).map s.tm) h
 |.goto _,_,_=>False
structure PQ (R:VK) (rs:List Nat) (el:List (Nat×List Nat)) (E:EK) (q:c7):Prop where
 r:∀s h,q .ret s h=R (rs.map s.tm) h
 e:∀j s h,q (.exit j) s h=E j ((lk el j).map s.tm) h
 g:∀l s h,q (.goto l) s h=False
variable {R:VK} {rs:List Nat} {el:List (Nat×List Nat)} {E:EK}
theorem PQ.b{i:Nat}{l:List Nat}{A:VK}(hr:PQ R rs el E q)(hA:q .normal=fun s h=>A (l.map s.tm) h:=by kernel_rfl):PQ R rs ((i,l)::el) (fun j vs h=>if j=i then A vs h else E j vs h) (fI i q) where
 r:=hr.r
 g:=hr.g
 e:=fun j s h=>by
  simp only[fI,lk]
  split
  ·rw[hA]
  ·exact hr.e j s h
theorem PQ.t(hr:PQ R rs el E q):PQ R rs el E (cC K q):=⟨hr.r,hr.e,hr.g⟩
theorem PQ.n(hr:PQ R rs el E q):PQ R rs el E (pn q):=⟨hr.r,hr.e,fun _ _ _=>rfl⟩
theorem PQ.o{L:List Nat}:PQ c.R rs el c.E (Kl L rs el c):=⟨fun _ _=>rfl,fun _ _ _=>rfl,fun _ _ _=>rfl⟩
theorem lp{fb:Cx->KT}(L rs:List Nat)(el:List (Nat×List Nat))(f:KT)(G:GK)(E:EK)
  (hq:PQ c.R rs el E q) (hb:∀c:Cx,TB B c.W (kP c.P) (u0 x) (Kl L rs el c) (fb c)) (e:(x,(fun Kn=>fb ⟨c.W,c.R,Kn,E,c.P⟩),f)=(.loop (u0 x),(fun Kn s h=>G c.W c.R c.N c.E c.P Kn (L.map s.tm) h),fun s h=>cY (G c.W c.R c.N c.E c.P) (L.map s.tm) h):=by kernel_rfl):TB B c.W (kP c.P) x q f:=by
 obtain⟨e1,e3⟩:=Prod.mk.inj e
 obtain⟨e2,e4⟩:=Prod.mk.inj e3
 subst e4
 unfold TB;rw[e1]
 funext s h
 show l_ (aw B.P B.N c.W B.pl (u0 x)) q (kP c.P) s h=_
 refine S2 (L:=fun tm=>L.map tm) (G:=G c.W c.R c.N c.E c.P) (fun Kn KQ hK s h=>?_) s h
 have hqq:cC KQ q=Kl L rs el ⟨c.W,c.R,Kn,E,c.P⟩:=by
  funext z s h
  cases z with
  |normal=>exact hK s h
  |ret=>exact hq.r s h
  |exit j=>exact hq.e j s h
  |goto l=>exact hq.g l s h
 rw[hqq]
 have h1:=congrFun (congrFun (hb ⟨c.W,c.R,Kn,E,c.P⟩) s) h
 have h2:=congrFun (congrFun (congrFun e2 Kn) s) h
 exact h1.trans h2
end
theorem fin{P:Program}{f n:Nat}{L:List Nat}{fn:Func}{rs:List ResultVar}{pl:eS}{args:List AV}{h:AH}{M:Nat->Prop}{R:AE->AH->Prop}(F:Cx->KT)(hm:P.follows .mixedOrders=true)(hf:P.funcs[f]?=some fn)
  (ht:∀c:Cx,TB ⟨P,n,pl⟩ c.W (kP c.P) (fn.body.getD .skip) (Kl L L [] c) (F c))
  (hp:F ⟨fun id=>M id\/h.next<=id,aJ P rs R,aJ P rs R,fun _ _ _=>False,fun v h=>R (.cg v) h⟩ (s0 args) h) (e:(kM P pl (fn.body.getD .skip)&&sD (fn.body.getD .skip)&&Nat.ble args.length n,fn.body,fn.ntmps,fn.results.toList,rs.map ss)=(true,some (fn.body.getD .skip),n,rs,L):=by kernel_rfl):aE P f args h M R:=by
 obtain⟨e1,e⟩:=Prod.mk.inj e
 obtain⟨e2,e⟩:=Prod.mk.inj e
 obtain⟨e3,e⟩:=Prod.mk.inj e
 obtain⟨e4,e5⟩:=Prod.mk.inj e
 simp only[yC]at e1
 obtain⟨⟨o1,o2⟩,o3⟩:=e1
 subst e3
 refine xF hm hf e2 (Nat.le_of_ble_eq_true o3) o1 ?_
 rw[e4]
 refine VM (q:=Kl L L [] ⟨fun id=>M id\/h.next<=id,aJ P rs R,aJ P rs R,fun _ _ _=>False,fun v h=>R (.cg v) h⟩) o2 (fun s h=>?_) (fun s h=>?_) (fun _ _ _ h=>h) (fun _ _ _ h=>h) rfl ?_
 ·show aJ P rs R (L.map s.tm) h=_
  rw[<-e5,List.map_map];rfl
 ·show aJ P rs R (L.map s.tm) h=_
  rw[<-e5,List.map_map];rfl
 ·have:=congrFun (congrFun (ht ⟨fun id=>M id\/h.next<=id,aJ P rs R,aJ P rs R,fun _ _ _=>False,fun v h=>R (.cg v) h⟩) (s0 args)) h
  exact Eq.mpr this hp
theorem qL{P:Program}{f n:Nat}{fn:Func}{rs:List ResultVar}{pl:eS}{args:List AV}{h:AH}{M:Nat->Prop}{R:AE->AH->Prop}(F:OK)(hm:P.follows .mixedOrders=true)(hf:P.funcs[f]?=some fn)
  (ht:∀W Q QP,TB ⟨P,n,pl⟩ W QP (fn.body.getD .skip) Q (F W Q QP))
  (hp:F (fun id=>M id\/h.next<=id) (dP P rs R) (bT R) (s0 args) h) (e:(kM P pl (fn.body.getD .skip)&&Nat.ble args.length n,fn.body,fn.ntmps,fn.results.toList)=(true,some (fn.body.getD .skip),n,rs):=by kernel_rfl):aE P f args h M R:=by
 obtain⟨e1,e⟩:=Prod.mk.inj e
 obtain⟨e2,e⟩:=Prod.mk.inj e
 obtain⟨e3,e4⟩:=Prod.mk.inj e
 simp only[yC]at e1
 obtain⟨o1,o3⟩:=e1
 subst e3
 refine xF hm hf e2 (Nat.le_of_ble_eq_true o3) o1 ?_
 rw[e4]
 exact Eq.mpr (congrFun (congrFun (ht _ _ _) (s0 args)) h) hp
abbrev N0:=WK->VK->VK->EK->PK->AH->Prop
def a0(n:N0)(c:Cx):KT:=fun _ h=>n c.W c.R c.N c.E c.P h
abbrev N1:=WK->VK->VK->EK->PK->AV->AH->Prop
def a1(n:N1)(i0:Nat)(c:Cx):KT:=fun s h=>n c.W c.R c.N c.E c.P (s.tm i0) h
abbrev N2:=WK->VK->VK->EK->PK->AV->AV->AH->Prop
def a2(n:N2)(i0 i1:Nat)(c:Cx):KT:=fun s h=>n c.W c.R c.N c.E c.P (s.tm i0) (s.tm i1) h
abbrev N3:=WK->VK->VK->EK->PK->AV->AV->AV->AH->Prop
def a3(n:N3)(i0 i1 i2:Nat)(c:Cx):KT:=fun s h=>n c.W c.R c.N c.E c.P (s.tm i0) (s.tm i1) (s.tm i2) h
abbrev N4:=WK->VK->VK->EK->PK->AV->AV->AV->AV->AH->Prop
def a4(n:N4)(i0 i1 i2 i3:Nat)(c:Cx):KT:=fun s h=>n c.W c.R c.N c.E c.P (s.tm i0) (s.tm i1) (s.tm i2) (s.tm i3) h
abbrev N5:=WK->VK->VK->EK->PK->AV->AV->AV->AV->AV->AH->Prop
def a5(n:N5)(i0 i1 i2 i3 i4:Nat)(c:Cx):KT:=fun s h=>n c.W c.R c.N c.E c.P (s.tm i0) (s.tm i1) (s.tm i2) (s.tm i3) (s.tm i4) h
abbrev N6:=WK->VK->VK->EK->PK->AV->AV->AV->AV->AV->AV->AH->Prop
def a6(n:N6)(i0 i1 i2 i3 i4 i5:Nat)(c:Cx):KT:=fun s h=>n c.W c.R c.N c.E c.P (s.tm i0) (s.tm i1) (s.tm i2) (s.tm i3) (s.tm i4) (s.tm i5) h
abbrev N7:=WK->VK->VK->EK->PK->AV->AV->AV->AV->AV->AV->AV->AH->Prop
def a7(n:N7)(i0 i1 i2 i3 i4 i5 i6:Nat)(c:Cx):KT:=fun s h=>n c.W c.R c.N c.E c.P (s.tm i0) (s.tm i1) (s.tm i2) (s.tm i3) (s.tm i4) (s.tm i5) (s.tm i6) h
abbrev N8:=WK->VK->VK->EK->PK->AV->AV->AV->AV->AV->AV->AV->AV->AH->Prop
def a8(n:N8)(i0 i1 i2 i3 i4 i5 i6 i7:Nat)(c:Cx):KT:=fun s h=>n c.W c.R c.N c.E c.P (s.tm i0) (s.tm i1) (s.tm i2) (s.tm i3) (s.tm i4) (s.tm i5) (s.tm i6) (s.tm i7) h
abbrev N9:=WK->VK->VK->EK->PK->AV->AV->AV->AV->AV->AV->AV->AV->AV->AH->Prop
def a9(n:N9)(i0 i1 i2 i3 i4 i5 i6 i7 i8:Nat)(c:Cx):KT:=fun s h=>n c.W c.R c.N c.E c.P (s.tm i0) (s.tm i1) (s.tm i2) (s.tm i3) (s.tm i4) (s.tm i5) (s.tm i6) (s.tm i7) (s.tm i8) h
abbrev km:=WK->VK->VK->EK->PK->AV->AV->AV->AV->AV->AV->AV->AV->AV->AV->AH->Prop
def kE(n:km)(i0 i1 i2 i3 i4 i5 i6 i7 i8 i9:Nat)(c:Cx):KT:=fun s h=>n c.W c.R c.N c.E c.P (s.tm i0) (s.tm i1) (s.tm i2) (s.tm i3) (s.tm i4) (s.tm i5) (s.tm i6) (s.tm i7) (s.tm i8) (s.tm i9) h
abbrev qN:=WK->VK->VK->EK->PK->AV->AV->AV->AV->AV->AV->AV->AV->AV->AV->AV->AH->Prop
def rW(n:qN)(i0 i1 i2 i3 i4 i5 i6 i7 i8 i9 i10:Nat)(c:Cx):KT:=fun s h=>n c.W c.R c.N c.E c.P (s.tm i0) (s.tm i1) (s.tm i2) (s.tm i3) (s.tm i4) (s.tm i5) (s.tm i6) (s.tm i7) (s.tm i8) (s.tm i9) (s.tm i10) h
abbrev V8:=WK->VK->VK->EK->PK->AV->AV->AV->AV->AV->AV->AV->AV->AV->AV->AV->AV->AH->Prop
def a12(n:V8)(i0 i1 i2 i3 i4 i5 i6 i7 i8 i9 i10 i11:Nat)(c:Cx):KT:=fun s h=>n c.W c.R c.N c.E c.P (s.tm i0) (s.tm i1) (s.tm i2) (s.tm i3) (s.tm i4) (s.tm i5) (s.tm i6) (s.tm i7) (s.tm i8) (s.tm i9) (s.tm i10) (s.tm i11) h
end
end Go.Ab
