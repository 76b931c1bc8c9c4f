/- The parser in plain Lean; contracts of the reader of package parse, and of parse.Parse. No condition. -/
import Derived.Test.YtjehibknlmehmaaGreatDoorGpk
import Derived.Test.YtjehibknlmehmaaGreatDoorVak
set_option maxRecDepth 100000
namespace Go.Proofs.YtjehibknlmehmaaGreatDoor
section
open Go.Ab
structure Arg where
 name:ByteArray
 index:Int
structure Row where
 kind:ByteArray
 name:ByteArray
 args:List Arg
 num:Int
 rows:Int
 place:Int
abbrev iF(α:Type):=Except (Int×Int) α
abbrev aS:ByteArray:=⟨#[113,117,98,105,116,115]⟩
abbrev bz:ByteArray:=⟨#[98,105,116,115]⟩
abbrev aN:ByteArray:=⟨#[103,97,116,101]⟩
abbrev aG:ByteArray:=⟨#[114,101,112,101,97,116]⟩
abbrev cz:ByteArray:=⟨#[105,102]⟩
abbrev aQ:ByteArray:=⟨#[109,101,97,115,117,114,101]⟩
abbrev bB:ByteArray:=⟨#[114,101,115,101,116]⟩
abbrev bw:ByteArray:=⟨#[117,115,101]⟩
abbrev cQ:ByteArray:=⟨#[]⟩
abbrev l_:ByteArray:=⟨#[59]⟩
abbrev kM:ByteArray:=⟨#[123]⟩
abbrev jw:ByteArray:=⟨#[125]⟩
abbrev ub:ByteArray:=⟨#[91]⟩
abbrev zp:ByteArray:=⟨#[93]⟩
def wq(s:ByteArray):Bool:=decide (s=aS)||decide (s=bz)||decide (s=aN)||decide (s=aG)||decide (s=cz)||decide (s=aQ)||decide (s=bB)
section
variable (L:List Tok) (en:Int)
def eQ(p:Nat)(w:Bool):iF Tok:=
 match L[p]? with
 |none=>.error (en,101)
 |some t=>if w then .ok t else .error (t.at_,100)
def hU(p:Nat)(s:ByteArray):Bool:=match L[p]? with |some t=>t.kind==3&&decide (t.text=s) |none=>false
def jm(p:Nat):Bool:=match L[p]? with |some t=>t.kind==1&&!wq t.text |none=>false
def g_(p:Nat):Bool:=match L[p]? with |some t=>t.kind==2 |none=>false
def eX(p:Nat):Bool:=match L[p]? with |some t=>t.kind==1 |none=>false
def eu(p:Nat):iF ByteArray:=(eQ L en p (jm L p)).map (·.text)
def kb(p:Nat)(s:ByteArray):iF Tok:=eQ L en p (hU L p s)
def il:List UInt8->Int->Option Int
 |[],n=>some n
 |c::l,n=>if n*10+((c.toNat:Int)-48) > 9007199254740991 then none else il l (n*10+((c.toNat:Int)-48))
def dm(p:Nat):iF Int:=
 match eQ L en p (g_ L p) with
 |.error e=>.error e
 |.ok t=>match il t.text.data.toList 0 with
  |some n=>.ok n
  |none=>.error (t.at_,1)
def gR(p:Nat):iF (Arg×Nat):=
 match eu L en p with
 |.error e=>.error e
 |.ok nm=>
  if hU L (p+1) ub then
   match dm L en (p+2) with
   |.error e=>.error e
   |.ok n=>match kb L en (p+3) zp with
    |.error e=>.error e
    |.ok _=>.ok (⟨nm,n⟩,p+4)
  else .ok (⟨nm,-1⟩,p+1)
def jn:Nat->Nat->List Arg->iF (List Arg×Nat)
 |0,_,_=>.error (0,-1)
 |n+1,p,acc=>if jm L p then
   match eu L en p with
   |.error e=>.error e
   |.ok nm=>jn n (p+1) (acc++[⟨nm,-1⟩])
  else .ok (acc,p)
def kU:Nat->Nat->List Arg->iF (List Arg×Nat)
 |0,_,_=>.error (0,-1)
 |n+1,p,acc=>if jm L p then
   match gR L en p with
   |.error e=>.error e
   |.ok (a,p')=>kU n p' (acc++[a])
  else .ok (acc,p)
def jO(step:Nat->iF (Nat×List Row)):Nat->Nat->List Row->iF (Nat×List Row)
 |0,_,_=>.error (0,-1)
 |n+1,p,acc=>if hU L p jw then .ok (p,acc) else
   match step p with
   |.error e=>.error e
   |.ok (p',new)=>jO step n p' (acc++new)
def xm(k:Nat)(step:Nat->iF (Nat×List Row))(p:Nat):iF (Nat×List Row):=
 match kb L en p kM with
 |.error e=>.error e
 |.ok t=>match k with
  |0=>.error (t.at_,102)
  |_=>match jO L step (L.length+1) (p+1) [] with
   |.error e=>.error e
   |.ok (p',rows)=>.ok (p'+1,rows)
def ja(p:Nat)(row:Row):iF (Nat×List Row):=
 match kb L en p l_ with
 |.error e=>.error e
 |.ok _=>.ok (p+1,[row])
def jS(k:Nat)(step:Nat->iF (Nat×List Row))(p:Nat)(row:Row):iF (Nat×List Row):=
 match xm L en k step p with
 |.error e=>.error e
 |.ok (p',rows)=>.ok (p',{ row with rows:=rows.length }::rows)
def gz:Nat->Nat->iF (Nat×List Row)
 |k,p=>
  let step:Nat->iF (Nat×List Row):=match k with |0=>fun _=>.error (0,-1) |k'+1=>gz k'
  match eQ L en p (eX L p) with
  |.error e=>.error e
  |.ok t=>
   if t.text=aS\/t.text=bz then
    match eu L en (p+1) with
    |.error e=>.error e
    |.ok nm=>match dm L en (p+2) with
     |.error e=>.error e
     |.ok n=>ja L en (p+3) ⟨t.text,nm,[],n,0,t.at_⟩
   else if t.text=aN then
    match eu L en (p+1) with
    |.error e=>.error e
    |.ok nm=>match jn L en (L.length+1) (p+2) [] with
     |.error e=>.error e
     |.ok (l,p')=>jS L en k step p' ⟨t.text,nm,l,0,0,t.at_⟩
   else if t.text=aG then
    match dm L en (p+1) with
    |.error e=>.error e
    |.ok n=>jS L en k step (p+2) ⟨t.text,cQ,[],n,0,t.at_⟩
   else if t.text=cz then
    match eu L en (p+1) with
    |.error e=>.error e
    |.ok nm=>match dm L en (p+2) with
     |.error e=>.error e
     |.ok n=>jS L en k step (p+3) ⟨t.text,nm,[],n,0,t.at_⟩
   else if t.text=aQ then
    match gR L en (p+1) with
    |.error e=>.error e
    |.ok (a,p1)=>match gR L en p1 with
     |.error e=>.error e
     |.ok (b,p2)=>ja L en p2 ⟨t.text,cQ,[a,b],0,0,t.at_⟩
   else if t.text=bB then
    match gR L en (p+1) with
    |.error e=>.error e
    |.ok (a,p1)=>ja L en p1 ⟨t.text,cQ,[a],0,0,t.at_⟩
   else
    match kU L en (L.length+1) (p+1) [] with
    |.error e=>.error e
    |.ok (l,p')=>ja L en p' ⟨bw,t.text,l,0,0,t.at_⟩
def ng:Nat->Nat->List Row->iF (List Row)
 |0,_,_=>.error (0,-1)
 |n+1,p,acc=>if p<L.length then
   match gz L en 32 p with
   |.error e=>.error e
   |.ok (p',new)=>ng n p' (acc++new)
  else .ok acc
end
end
section
open Go.Ab
section
variable {L:List Tok} {en:Int}
def jL(L:List Tok)(en:Int)(k:Nat):Nat->iF (Nat×List Row):=match k with |0=>fun _=>.error (0,-1) |k'+1=>gz L en k'
def ka(L:List Tok)(en:Int)(k:Nat)(step:Nat->iF (Nat×List Row))(p:Nat)(t:Tok):iF (Nat×List Row):=
 if t.text=aS\/t.text=bz then
  match eu L en (p+1) with
  |.error e=>.error e
  |.ok nm=>match dm L en (p+2) with
   |.error e=>.error e
   |.ok n=>ja L en (p+3) ⟨t.text,nm,[],n,0,t.at_⟩
 else if t.text=aN then
  match eu L en (p+1) with
  |.error e=>.error e
  |.ok nm=>match jn L en (L.length+1) (p+2) [] with
   |.error e=>.error e
   |.ok (l,p')=>jS L en k step p' ⟨t.text,nm,l,0,0,t.at_⟩
 else if t.text=aG then
  match dm L en (p+1) with
  |.error e=>.error e
  |.ok n=>jS L en k step (p+2) ⟨t.text,cQ,[],n,0,t.at_⟩
 else if t.text=cz then
  match eu L en (p+1) with
  |.error e=>.error e
  |.ok nm=>match dm L en (p+2) with
   |.error e=>.error e
   |.ok n=>jS L en k step (p+3) ⟨t.text,nm,[],n,0,t.at_⟩
 else if t.text=aQ then
  match gR L en (p+1) with
  |.error e=>.error e
  |.ok (a,p1)=>match gR L en p1 with
   |.error e=>.error e
   |.ok (b,p2)=>ja L en p2 ⟨t.text,cQ,[a,b],0,0,t.at_⟩
 else if t.text=bB then
  match gR L en (p+1) with
  |.error e=>.error e
  |.ok (a,p1)=>ja L en p1 ⟨t.text,cQ,[a],0,0,t.at_⟩
 else
  match kU L en (L.length+1) (p+1) [] with
  |.error e=>.error e
  |.ok (l,p')=>ja L en p' ⟨bw,t.text,l,0,0,t.at_⟩
theorem tY(k p:Nat):gz L en k p=(match eQ L en p (eX L p) with |.error e=>.error e |.ok t=>ka L en k (jL L en k) p t):=by
 cases k<;>rfl
theorem pf{p:Nat}{w:Bool}{t:Tok}(h:eQ L en p w=.ok t):p<L.length/\L[p]?=some t/\w=true:=by
 unfold eQ at h
 cases hg:L[p]? with
 |none=>rw[hg]at h;cases h
 |some t'=>
  rw[hg]at h
  cases w
  ·cases h
  ·cases h;exact⟨(zM.1 hg).1,rfl,rfl⟩
theorem pg{p:Nat}{s:ByteArray}(h:eu L en p=.ok s):p<L.length/\∃t,L[p]?=some t/\t.text=s/\jm L p=true:=by
 unfold eu at h
 cases hn:eQ L en p (jm L p) with
 |error e=>rw[hn]at h;cases h
 |ok t=>
  rw[hn]at h;cases h
  have:=pf hn
  exact⟨this.1,t,this.2.1,rfl,this.2.2⟩
theorem zm{p:Nat}{s:ByteArray}{t:Tok}(h:kb L en p s=.ok t):p<L.length:=(pf h).1
theorem A8{p:Nat}{n:Int}(h:dm L en p=.ok n):p<L.length:=by
 unfold dm at h
 cases hn:eQ L en p (g_ L p) with
 |error e=>rw[hn]at h;cases h
 |ok t=>exact(pf hn).1
theorem mr{p p':Nat}{a:Arg}(h:gR L en p=.ok (a,p')):p<p'/\p'<=L.length:=by
 unfold gR at h
 cases hn:eu L en p with
 |error e=>rw[hn]at h;cases h
 |ok nm=>
  have h1:=(pg hn).1
  rw[hn]at h
  simp only at h
  split at h
  ·cases hu:dm L en (p+2) with
   |error e=>rw[hu]at h;cases h
   |ok n=>
    rw[hu]at h
    cases hs:kb L en (p+3) zp with
    |error e=>rw[hs]at h;cases h
    |ok t=>
     rw[hs]at h;cases h
     have:=zm hs
     omega
  ·cases h;omega
theorem wz:∀(n p:Nat)(acc:List Arg){l:List Arg}{p':Nat},p<=L.length->jn L en n p acc=.ok (l,p')->p<=p'/\p'<=L.length/\l.length+p=acc.length+p'
 |0,_,_,_,_,_,h=>by simp[jn]at h
 |n+1,p,acc,l,p',hp,h=>by
  simp only[jn]at h
  split at h
  ·cases hn:eu L en p with
   |error e=>rw[hn]at h;cases h
   |ok nm=>
    rw[hn]at h
    have h1:=(pg hn).1
    have:=wz n (p+1) _ (by omega) h
    simp at this;omega
  ·cases h;omega
theorem As:∀(n p:Nat)(acc:List Arg){l:List Arg}{p':Nat},p<=L.length->kU L en n p acc=.ok (l,p')->p<=p'/\p'<=L.length/\l.length+p<=acc.length+p'
 |0,_,_,_,_,_,h=>by simp[kU]at h
 |n+1,p,acc,l,p',hp,h=>by
  simp only[kU]at h
  split at h
  ·cases hn:gR L en p with
   |error e=>rw[hn]at h;cases h
   |ok x=>
    obtain⟨a,p1⟩:=x
    rw[hn]at h
    have h1:=mr hn
    have:=As n p1 _ (by omega) h
    simp at this;omega
  ·cases h;omega
def uT(L:List Tok)(step:Nat->iF (Nat×List Row)):Prop:=∀p p' new,step p=.ok (p',new)->p<p'/\p'<=L.length/\new.length+p<=p'
theorem Fa{step:Nat->iF (Nat×List Row)}(hs:uT L step):∀(n p:Nat)(acc:List Row){l:List Row}{p':Nat},jO L step n p acc=.ok (p',l)->p<=p'/\p'<L.length/\l.length+p<=acc.length+p'
 |0,_,_,_,_,h=>by simp[jO]at h
 |n+1,p,acc,l,p',h=>by
  simp only[jO]at h
  split at h
  ·rename_i n_
   cases h
   unfold hU at n_
   cases hg:L[p]? with
   |none=>rw[hg]at n_;cases n_
   |some t=>
    have:=(zM.1 hg).1
    omega
  ·cases hn:step p with
   |error e=>rw[hn]at h;cases h
   |ok x=>
    obtain⟨p1,new⟩:=x
    rw[hn]at h
    have h1:=hs _ _ _ hn
    have:=Fa hs n p1 _ h
    simp at this;omega
theorem WA{k:Nat}{step:Nat->iF (Nat×List Row)}(hs:uT L step){p p':Nat}{l:List Row}(h:xm L en k step p=.ok (p',l)):p<p'/\p'<=L.length/\l.length+p<p':=by
 unfold xm at h
 cases hn:kb L en p kM with
 |error e=>rw[hn]at h;cases h
 |ok t=>
  rw[hn]at h
  cases k with
  |zero=>cases h
  |succ k=>
   simp only at h
   cases hl:jO L step (L.length+1) (p+1) [] with
   |error e=>rw[hl]at h;cases h
   |ok x=>
    obtain⟨p1,rows⟩:=x
    rw[hl]at h
    cases h
    have:=Fa hs _ _ _ hl
    simp at this;omega
theorem ru{p p':Nat}{row:Row}{l:List Row}(h:ja L en p row=.ok (p',l)):p'=p+1/\p'<=L.length/\l=[row]:=by
 unfold ja at h
 cases hn:kb L en p l_ with
 |error e=>rw[hn]at h;cases h
 |ok t=>rw[hn]at h;cases h;have:=zm hn;exact⟨rfl,by omega,rfl⟩
theorem Ah{k:Nat}{step:Nat->iF (Nat×List Row)}(hs:uT L step){p p':Nat}{row:Row}{l:List Row}(h:jS L en k step p row=.ok (p',l)):p<p'/\p'<=L.length/\l.length+p<=p':=by
 unfold jS at h
 cases hn:xm L en k step p with
 |error e=>rw[hn]at h;cases h
 |ok x=>obtain⟨p1,rows⟩:=x;rw[hn]at h;cases h;have:=WA hs hn;simp;omega
theorem M8{k:Nat}{step:Nat->iF (Nat×List Row)}(hs:uT L step){p p':Nat}{t:Tok}{l:List Row}(hp:p<L.length)(h:ka L en k step p t=.ok (p',l)):p<p'/\p'<=L.length/\l.length+p<=p':=by
 unfold ka at h
 split at h
 ·cases h1:eu L en (p+1) with
  |error e=>rw[h1]at h;cases h
  |ok nm=>
   rw[h1]at h;simp only at h
   cases h2:dm L en (p+2) with
   |error e=>rw[h2]at h;cases h
   |ok n=>rw[h2]at h;obtain⟨rfl,a,rfl⟩:=ru h;simp;omega
 split at h
 ·cases h1:eu L en (p+1) with
  |error e=>rw[h1]at h;cases h
  |ok nm=>
   rw[h1]at h;simp only at h
   have:=(pg h1).1
   cases h2:jn L en (L.length+1) (p+2) [] with
   |error e=>rw[h2]at h;cases h
   |ok x=>obtain⟨l2,p2⟩:=x;rw[h2]at h;have a:=wz _ _ _ (by omega) h2;have b:=Ah hs h;omega
 split at h
 ·cases h1:dm L en (p+1) with
  |error e=>rw[h1]at h;cases h
  |ok n=>rw[h1]at h;have b:=Ah hs h;omega
 split at h
 ·cases h1:eu L en (p+1) with
  |error e=>rw[h1]at h;cases h
  |ok nm=>
   rw[h1]at h;simp only at h
   cases h2:dm L en (p+2) with
   |error e=>rw[h2]at h;cases h
   |ok n=>rw[h2]at h;have b:=Ah hs h;omega
 split at h
 ·cases h1:gR L en (p+1) with
  |error e=>rw[h1]at h;cases h
  |ok x=>
   obtain⟨a,p1⟩:=x
   rw[h1]at h;simp only at h
   have:=mr h1
   cases h2:gR L en p1 with
   |error e=>rw[h2]at h;cases h
   |ok y=>obtain⟨b,p2⟩:=y;rw[h2]at h;have:=mr h2;obtain⟨rfl,a,rfl⟩:=ru h;simp;omega
 split at h
 ·cases h1:gR L en (p+1) with
  |error e=>rw[h1]at h;cases h
  |ok x=>
   obtain⟨a,p1⟩:=x
   rw[h1]at h;simp only at h
   have:=mr h1
   obtain⟨rfl,a,rfl⟩:=ru h;simp;omega
 ·cases h1:kU L en (L.length+1) (p+1) [] with
  |error e=>rw[h1]at h;cases h
  |ok x=>
   obtain⟨l2,p2⟩:=x
   rw[h1]at h;simp only at h
   have:=As _ _ _ (by omega) h1
   obtain⟨rfl,a,rfl⟩:=ru h;simp;omega
theorem zk:∀(k:Nat),uT L (gz L en k):=by
 have key:∀k,uT L (jL L en k)->uT L (gz L en k):=by
  intro k hk p p' new h
  rw[tY]at h
  cases h1:eQ L en p (eX L p) with
  |error e=>rw[h1]at h;cases h
  |ok t=>rw[h1]at h;exact M8 hk (pf h1).1 h
 intro k
 induction k with
 |zero=>exact key 0 (fun _ _ _ h=>by simp[jL]at h)
 |succ k ih=>exact key (k+1) ih
end
end
section
open Go.Ab
abbrev qI(l:List Tok):AO:=aI (l.flatMap Tok.enc) 3 117
abbrev lN(tk n:Nat)(p en:Int)(rv:AV):AO:=aI [.sl tk 0 n,.sc (.int .i64 p),.sc (.int .i64 en),rv] 4 89
def dw(e:Int×Int):AV:=.kx 85 (.agg [.sc (.int .i64 e.1),.sc (.int .i64 e.2)])
def rQ{α:Type}(x:iF α)(K:α->Prop)(KP:Int×Int->Prop):Prop:=match x with |.ok a=>K a |.error e=>KP e
theorem O1:ke Pg 117=some true:=by kernel_rfl
theorem M4:eM Pg 117=some 3:=by kernel_rfl
section
variable {h:AH} {r tk:Nat} {L:List Tok} {en:Int} {rv:AV} {M:Nat->Prop} {R:AE->AH->Prop} {p:Nat}
theorem KR{s:ByteArray}(hR:R (.ret (.sc (.bool (wq s)))) h):aB Pg 87 [.sc (.string s)] h M R:=by
 apply Z9.calls
 unfold wq at hR
 by_cases h1:s=aS
 ·simp[h1]at hR;simp[h1,hR]
 by_cases h2:s=bz
 ·simp[h1,h2]at hR;simp[h1,h2,hR]
 by_cases h3:s=aN
 ·simp[h1,h2,h3]at hR;simp[h1,h2,h3,hR]
 by_cases h4:s=aG
 ·simp[h1,h2,h3,h4]at hR;simp[h1,h2,h3,h4,hR]
 by_cases h5:s=cz
 ·simp[h1,h2,h3,h4,h5]at hR;simp[h1,h2,h3,h4,h5,hR]
 by_cases h6:s=aQ
 ·simp[h1,h2,h3,h4,h5,h6]at hR;simp[h1,h2,h3,h4,h5,h6,hR]
 by_cases h7:s=bB
 ·simp[h1,h2,h3,h4,h5,h6,h7]at hR;simp[h1,h2,h3,h4,h5,h6,h7,hR]
 simp[h1,h2,h3,h4,h5,h6,h7]at hR;simp[h1,h2,h3,h4,h5,h6,h7,hR]
theorem B6{sg:ByteArray}(hr:h.obj r=some (lN tk L.length p en rv))(ht:h.obj tk=some (qI L))(hR:R (.ret (.sc (.bool (hU L p sg)))) h):aB Pg 86 [.ptr r 0,.sc (.string sg)] h M R:=by
 apply Z_.calls
 unfold hU at hR
 by_cases aJ:p<L.length
 ·by_cases hk:L[p].kind=3
  ·simp[aJ,hk]at hR
   simp[hr,aJ,ht,jg Tok.b8,fS Tok.b8,Tok.enc,hk]
   exact hR
  ·simp[aJ,hk]at hR
   have pX:(L[p].kind==3)=false:=by simpa using hk
   rw[pX]at hR
   simp[hr,aJ,ht,jg Tok.b8,fS Tok.b8,Tok.enc,hk]
   exact hR
 ·simp[aJ]at hR
  simp[hr,aJ]
  exact hR
theorem zs(hr:h.obj r=some (lN tk L.length p en rv))(ht:h.obj tk=some (qI L))(hR:R (.ret (.sc (.bool (jm L p)))) h):aB Pg 63 [.ptr r 0] h M R:=by
 apply F63.calls
 unfold jm at hR
 by_cases aJ:p<L.length
 ·by_cases hk:L[p].kind=1
  ·simp[aJ,hk]at hR
   simp[hr,aJ,ht,jg Tok.b8,fS Tok.b8,Tok.enc,hk]
   refine⟨fun _=>False,fun _ h=>h.elim,KR ?_⟩
   simp
   exact hR
  ·simp[aJ,hk]at hR
   have pX:(L[p].kind==1)=false:=by simpa using hk
   rw[pX]at hR
   simp[hr,aJ,ht,jg Tok.b8,fS Tok.b8,Tok.enc,hk]
   exact hR
 ·simp[aJ]at hR
  simp[hr,aJ]
  exact hR
theorem qU{wt:Bool}(hM:M r)(hL:L.length<=65536)(hr:h.obj r=some (lN tk L.length p en rv))(ht:h.obj tk=some (qI L))
  (hR:rQ (eQ L en p wt) (fun t=>∀h',Fr h h' (·=r)->h'.obj r=some (lN tk L.length (p+1:Nat) en rv)->R (.ret (.agg t.enc)) h') (fun e=>∀h',Fr h h' (·=r)->R (.b6 (dw e)) h')) :
  aB Pg 59 [.ptr r 0,.sc (.bool wt)] h M R:=by
 have lh:=h.lt _ _ hr
 have wI:=h.lt _ _ ht
 apply F59.calls
 unfold eQ rQ at hR
 by_cases aJ:p<L.length
 ·have hg:L[p]?=some L[p]:=zJ aJ
  have ll:¬(L.length:Int)<=p:=by omega
  have hw:IntKind.i64.wrap ((p:Int)+1)=(p:Int)+1:=aX (by omega) (by omega)
  cases wt
  ·simp[aJ]at hR
   simp[hr,ht,aJ,ll,hw,hM,AH.bJ,AH.bD,AH.bK,AH.rh,nA lh,nA wI,jg Tok.b8,fS Tok.b8,O1,M4,sG Tok.b8 _ _ _ hg,Tok.enc,CL]
   refine⟨by omega,?_⟩
   exact hR _ (((Fr.refl.alloc _).alloc _).put (.inr (Nat.le_succ _)))
  ·simp[aJ]at hR
   simp[hr,ht,aJ,ll,hw,hM,AH.bJ,AH.bD,AH.bK,AH.rh,nA lh,nA wI,jg Tok.b8,fS Tok.b8,O1,M4,sG Tok.b8 _ _ _ hg,Tok.enc,CL]
   refine⟨by omega,?_⟩
   refine hR _ ?_ ?_
   ·(repeat' first |exact Fr.refl |refine Fr.alloc ?_ _ |refine Fr.put ?_ ?_)<;>first |exact .inl rfl |exact .inr (by omega)
   simp[AH.bJ,AH.bD,AH.bK,AH.rh,nA lh,hr]
 ·simp[aJ]at hR
  have ll:L.length<=p:=by omega
  simp[hr,aJ,ll,nA lh,AH.bJ]
  exact hR _ (Fr.refl.alloc _)
theorem BZ{sg:ByteArray}(hM:M r)(hL:L.length<=65536)(hr:h.obj r=some (lN tk L.length p en rv))(ht:h.obj tk=some (qI L))
  (hR:rQ (kb L en p sg) (fun t=>∀h',Fr h h' (·=r)->h'.obj r=some (lN tk L.length (p+1:Nat) en rv)->R (.ret (.agg t.enc)) h') (fun e=>∀h',Fr h h' (·=r)->R (.b6 (dw e)) h')) :
  aB Pg 62 [.ptr r 0,.sc (.string sg)] h M R:=by
 have lh:=h.lt _ _ hr
 have wI:=h.lt _ _ ht
 apply F62.calls
 simp[O1,M4]
 have Di:(h.alloc (aI [.sc (.int .i64 0),.sc (.string ⟨#[]⟩),.sc (.int .i64 0)] 3 117)).obj r=some (lN tk L.length p en rv):=by rw[AH.alloc_old lh];exact hr
 have Za:(h.alloc (aI [.sc (.int .i64 0),.sc (.string ⟨#[]⟩),.sc (.int .i64 0)] 3 117)).obj tk=some (qI L):=by rw[AH.alloc_old wI];exact ht
 refine⟨fun _=>False,fun _ h=>h.elim,B6 Di Za ?_⟩
 refine⟨(·=r),fun _ h _=>h ▸ .inl hM,qU rfl hL Di Za ?_⟩
 show rQ (kb L en p sg) _ _
 have hf:=(Fr.refl (h:=h) (S:=(·=r))).alloc (aI [.sc (.int .i64 0),.sc (.string ⟨#[]⟩),.sc (.int .i64 0)] 3 117)
 cases hs:kb L en p sg with
 |error e=>
  rw[hs]at hR
  intro h' h1
  exact⟨rfl,hR _ (hf.trans (h1.mono fun _ h=>.inl h))⟩
 |ok t=>
  rw[hs]at hR
  intro h' h1 h2
  have h3:=h1.obj (AH.cg _ _) (nA lh).2.1
  have h4:=h1.next
  simp only[AH.bD]at h4
  simp[h3,AH.bK,Tok.enc]
  refine hR _ ((hf.trans (h1.mono fun _ h=>.inl h)).put (.inr (zU _))) ?_
  rw[AH.iM (nA lh).1];exact h2
theorem B_(hM:M r)(hL:L.length<=65536)(hr:h.obj r=some (lN tk L.length p en rv))(ht:h.obj tk=some (qI L))
  (hR:rQ (eu L en p) (fun s=>∀h',Fr h h' (·=r)->h'.obj r=some (lN tk L.length (p+1:Nat) en rv)->R (.ret (.sc (.string s))) h') (fun e=>∀h',Fr h h' (·=r)->R (.b6 (dw e)) h')) :
  aB Pg 60 [.ptr r 0] h M R:=by
 apply F60.calls
 simp
 refine⟨fun _=>False,fun _ h=>h.elim,zs hr ht ?_⟩
 refine⟨(·=r),fun _ h _=>h ▸ .inl hM,qU rfl hL hr ht ?_⟩
 unfold eu at hR
 cases hs:eQ L en p (jm L p) with
 |error e=>
  rw[hs]at hR
  intro h' h1
  exact⟨rfl,hR _ h1⟩
 |ok t=>
  rw[hs]at hR
  intro h' h1 h2
  have:=hR _ h1 h2
  simpa[lL,Tok.enc] using this
end
end
section
open Go.Ab
def GX(L:List Tok):Prop:=∀t∈L,t.kind=2->∀c∈t.text.data.toList,48<=c.toNat/\c.toNat<=57
abbrev ww(t:Tok):AO:=aI [.sc (.int .i64 t.kind),.sc (.string t.text),.sc (.int .i64 t.at_)] 3 117
abbrev Xr(s:ByteArray)(i:Nat):AO:={ cells:=[],sz:=0,ty:=0,kind:=.iter s i }
theorem Ia(s:ByteArray)(i:Nat)(h:i<s.size):s.data.toList.drop i=s[i]::s.data.toList.drop (i+1):=by
 rw[List.drop_eq_getElem_cons (by simpa using h)];rfl
section
variable {W:Nat->Prop} {Q:ck} {QP:bU} {h:AH} {tm:Nat->AV} {tc:Nat} {t:Tok}
theorem Pc(hW:∀id,h.next<=id->W id)(hs:t.text.size<=65536)(hd:∀c∈t.text.data.toList,48<=c.toNat/\c.toNat<=57)(h3:tm 3=.ptr tc 0)(hc:h.obj tc=some (ww t))
  (hQ:match il t.text.data.toList 0 with
   |some n=>∀ie h',ie 2=.sc (.int .i64 n)->Fr h h' (fun _=>False)->Q .ret ⟨ie,[]⟩ h'
   |none=>∀h',Fr h h' (fun _=>False)->QP [] (dw (t.at_,1)) h'):rT.eF W Q QP ⟨tm,[]⟩ h:=by
 simp[-rT.k8,h3,hc,qa]
 unfold rT.k8
 have VG:=h.lt _ _ hc
 refine pB (ι:=Nat) (fun i s' h'=>s'.ds=[]/\s'.tm 3=.ptr tc 0/\s'.tm 35=.ptr h.next 0/\i<=t.text.size/\h'.obj h.next=some (Xr t.text i)/\Fr h h' (fun _=>False) /\
  ∃n:Int,0<=n/\n<=9007199254740991/\s'.tm 4=.sc (.int .i64 n)/\il (t.text.data.toList.drop i) n=il t.text.data.toList 0) (fun i=>t.text.size-i) 0 ?_ ?_
 ·refine⟨rfl,by simp[h3],by simp,by omega,AH.cg _ _,Fr.refl.alloc _,0,by omega,by omega,by simp,rfl⟩
 rintro i ⟨ie,ds⟩ h' ⟨rfl,e3,Wi,hi,yJ,hf,n,yH,vp,e4,hv⟩
 simp only at e3 Wi e4
 rw[rT.l1]
 simp only[rT.k7,Wi,sI]
 refine⟨_,t.text,i,⟨hW _ (zU _),yJ,rfl,rfl⟩,?_⟩
 have gP:=hf.obj hc (fun h=>h)
 by_cases aJ:i<t.text.size
 ·rw[zX aJ]
  have nk:t.text[i]∈t.text.data.toList:=by
   have:t.text.data.toList.drop i=t.text[i]::t.text.data.toList.drop (i+1):=Ia _ _ aJ
   exact List.mem_of_mem_drop (i:=i) (by rw[this];simp)
  obtain⟨d0,d1⟩:=hd _ nk
  rw[decode_ascii _ _ aJ (by omega)]
  rw[Ia _ _ aJ]at hv
  simp only[il]at hv
  generalize t.text[i].toNat=c at *
  have w1:IntKind.i64.wrap (n*10)=n*10:=aX (by omega) (by omega)
  have w2:IntKind.i32.wrap ((c:Int)-48)=(c:Int)-48:=IntWalk.i32_in _ (by omega)
  have w3:IntKind.i64.wrap ((c:Int)-48)=(c:Int)-48:=aX (by omega) (by omega)
  have w4:IntKind.i64.wrap (n*10+((c:Int)-48))=n*10+((c:Int)-48):=aX (by omega) (by omega)
  by_cases Qx:n*10+((c:Int)-48) > 9007199254740991
  ·rw[zX Qx]at hv
   rw[<-hv]at hQ
   have Oe:9007199254740991<n*10+((c:Int)-48):=Qx
   simp[e3,e4,w1,w2,w3,w4,Oe,AH.pG,nA VG,gP]
   exact hQ _ (hf.EI (zU _))
  ·rw[zW Qx]at hv
   have Oe:¬9007199254740991<n*10+((c:Int)-48):=Qx
   simp[e3,e4,Wi,w1,w2,w3,w4,Oe]
   exact⟨i+1,by omega,by omega,by simp[AH.pG,yJ],hf.EI (zU _),n*10+((c:Int)-48),by omega,by omega,rfl,hv⟩
 ·rw[zW aJ]
  have:t.text.data.toList.drop i=[]:=List.drop_eq_nil_of_le (by simp;omega)
  rw[this]at hv
  simp only[il]at hv
  rw[<-hv]at hQ
  simp[e4]
  exact hQ _ _ (by simp) hf
end
section
variable {h:AH} {r tk:Nat} {L:List Tok} {en:Int} {rv:AV} {M:Nat->Prop} {R:AE->AH->Prop} {p:Nat}
theorem CX(hM:M r)(hL:L.length<=65536)(hD:GX L)(hT:∀t∈L,t.text.size<=65536)(hr:h.obj r=some (lN tk L.length p en rv))(ht:h.obj tk=some (qI L))
  (hR:rQ (dm L en p) (fun n=>∀h',Fr h h' (·=r)->h'.obj r=some (lN tk L.length (p+1:Nat) en rv)->R (.ret (.sc (.int .i64 n))) h') (fun e=>∀h',Fr h h' (·=r)->R (.b6 (dw e)) h')) :
  aB Pg 61 [.ptr r 0] h M R:=by
 have lh:=h.lt _ _ hr
 have wI:=h.lt _ _ ht
 apply rT.calls
 unfold dm at hR
 have tail:∀(t:Tok)(tm:Nat->AV)(tc:Nat)(h1:AH),eQ L en p (g_ L p)=.ok t->tm 3=.ptr tc 0->h1.obj tc=some (ww t)->h.next<=tc->Fr h h1 (·=r)->h1.obj r=some (lN tk L.length (p+1:Nat) en rv)->rT.eF (fun id=>M id\/h.next<=id) (Ab.cM Pg [.tmp 2] R) (Ab.bx R) ⟨tm,[]⟩ h1:=by
  intro t tm tc h1 hx h3 hc VG hf Di
  rw[hx]at hR
  have nk:t∈L/\t.kind=2:=by
   unfold eQ g_ at hx
   cases hg:L[p]? with
   |none=>rw[hg]at hx;cases hx
   |some t'=>
    rw[hg]at hx
    simp only at hx
    split at hx
    ·cases hx;exact⟨zP hg,by simp_all⟩
    ·cases hx
  refine Pc (t:=t) (fun id hid=>.inr (zR hf.next hid)) (hT _ nk.1) (hD _ nk.1 nk.2) h3 hc ?_
  cases hv:il t.text.data.toList 0 with
  |none=>
   simp only[hv]at hR
   intro h' lm
   simp
   exact hR _ (hf.trans (lm.mono fun _ h=>h.elim))
  |some n=>
   simp only[hv]at hR
   intro ie h' e2 lm
   simp[e2]
   exact hR _ (hf.trans (lm.mono fun _ h=>h.elim)) (lm.obj Di (fun h=>h))
 have he:∀e,eQ L en p (g_ L p)=.error e->∀h',Fr h h' (·=r)->R (.b6 (dw e)) h':=by
  intro e hx;rw[hx]at hR;exact hR
 have A1:∀(fT:AV->AV->Nat->AV),(∀a b,fT a b 3=b)->aC Pg (fun id=>M id\/h.next<=id) 59 [.ptr r 0,.sc (.bool (g_ L p))] h (fun t44 Dz=>bn (some [.int .i64 0,.string ⟨#[]⟩,.int .i64 0]) 3 117 Dz fun t46 vD=>
   aE (some 3) t46 t44 vD (fun id=>M id\/h.next<=id) fun vC=>rT.eF (fun id=>M id\/h.next<=id) (Ab.cM Pg [.tmp 2] R) (Ab.bx R) ⟨fT t44 t46,[]⟩ vC) (Ab.bx R []):=by
  intro fT ky
  refine⟨(·=r),fun _ h _=>h ▸ .inl hM,qU rfl hL hr ht ?_⟩
  cases hx:eQ L en p (g_ L p) with
  |error e=>intro h' h1;exact⟨rfl,he e hx h' h1⟩
  |ok t=>
   intro h' h1 h2
   have h3:=h1.next
   have h4:=h'.lt _ _ h2
   simp[-rT.eF,Tok.enc,AH.bJ,h3]
   refine tail t _ h'.next _ hx (by rw[ky]) (by simp[AH.bK,AH.bJ]) h3 ((h1.alloc _).put (.inr h3)) (by simp[AH.bK,AH.bJ,nA h4,h2])
 have A2:∀(fT:AV->AV->Nat->AV),(∀a b,fT a b 3=b)->bn (some [.int .i64 0,.string ⟨#[]⟩,.int .i64 0]) 3 117 h fun t49 vA=>aC Pg (fun id=>M id\/h.next<=id) 59 [.ptr r 0,.sc (.bool (g_ L p))] vA (fun t51 yM=>
   aE (some 3) t49 t51 yM (fun id=>M id\/h.next<=id) fun vz=>rT.eF (fun id=>M id\/h.next<=id) (Ab.cM Pg [.tmp 2] R) (Ab.bx R) ⟨fT t51 t49,[]⟩ vz) (Ab.bx R []):=by
  intro fT ky
  simp only[aH]
  refine⟨rfl,(·=r),fun _ h _=>h ▸ .inl hM,qU rfl hL (p:=p) (L:=L) (tk:=tk) (en:=en) (rv:=rv) (by rw[AH.alloc_old lh];exact hr) (by rw[AH.alloc_old wI];exact ht) ?_⟩
  have hf:=(Fr.refl (h:=h) (S:=(·=r))).alloc (aI ([.int .i64 0,.string ⟨#[]⟩,.int .i64 0].map .sc) 3 117)
  cases hx:eQ L en p (g_ L p) with
  |error e=>intro h' h1;exact⟨rfl,he e hx h' (hf.trans (h1.mono fun _ h=>.inl h))⟩
  |ok t=>
   intro h' h1 h2
   have h3:=h1.obj (AH.cg _ _) (nA lh).2.1
   have h4:=h1.next
   simp only[AH.bD]at h4
   simp[-rT.eF,Tok.enc,h3]
   refine tail t _ h.next _ hx (by rw[ky]) (by simp[AH.bK,h3]) (zU _) ((hf.trans (h1.mono fun _ h=>.inl h)).put (.inr (zU _))) (by simp[AH.bK,nA lh,h2])
 by_cases aJ:p<L.length
 ·by_cases hk:L[p].kind=2
  ·have hw:g_ L p=true:=by simp[g_,aJ,hk]
   simp only[hw]at A1 A2
   simp[-rT.eF,-aH,-az,hr,ht,aJ,jg Tok.b8,fS Tok.b8,Tok.enc,hk]
   exact⟨A1 _ (fun _ _=>by simp),A2 _ (fun _ _=>by simp)⟩
  ·have hw:g_ L p=false:=by simp[g_,aJ,hk]
   have Qv:(L[p].kind==2)=false:=by simpa using hk
   simp only[hw]at A1 A2
   simp[-rT.eF,-aH,-az,hr,ht,aJ,jg Tok.b8,fS Tok.b8,Tok.enc,Qv]
   exact⟨A1 _ (fun _ _=>by simp),A2 _ (fun _ _=>by simp)⟩
 ·have hw:g_ L p=false:=by simp[g_,aJ]
  simp only[hw]at A1 A2
  simp[-rT.eF,-aH,-az,hr,aJ]
  exact⟨A1 _ (fun _ _=>by simp),A2 _ (fun _ _=>by simp)⟩
end
end
section
open Go.Ab
def Arg.enc(a:Arg):List AV:=[.sc (.string a.name),.sc (.int .i64 a.index)]
theorem Arg.b8(a:Arg):a.enc.length=2:=rfl
theorem Arg.h_(a:Arg):a.enc.all cF=true:=rfl
theorem acC:ke Pg 67=some true:=by kernel_rfl
theorem aav:eM Pg 67=some 2:=by kernel_rfl
abbrev IT(a:Arg):AO:=aI [.sc (.string a.name),.sc (.int .i64 a.index)] 2 67
section
variable {h:AH} {r tk:Nat} {L:List Tok} {en:Int} {rv:AV} {M:Nat->Prop} {R:AE->AH->Prop} {p:Nat}
theorem pM(hM:M r)(hL:L.length<=65536)(hp:p<=L.length)(hD:GX L)(hT:∀t∈L,t.text.size<=65536)(hr:h.obj r=some (lN tk L.length p en rv))(ht:h.obj tk=some (qI L))
  (hR:rQ (gR L en p) (fun x=>∀h',Fr h h' (·=r)->h'.obj r=some (lN tk L.length x.2 en rv)->R (.ret (.agg x.1.enc)) h') (fun e=>∀h',Fr h h' (·=r)->R (.b6 (dw e)) h')) :
  aB Pg 65 [.ptr r 0] h M R:=by
 have lh:=h.lt _ _ hr
 have wI:=h.lt _ _ ht
 apply qe.calls
 unfold gR at hR
 have ZA:=(Fr.refl (h:=h) (S:=(·=r))).alloc (aI [.sc (.string ⟨#[]⟩),.sc (.int .i64 0)] 2 67)
 have tail:∀(tm:Nat->AV)(h1:AH)(a:Nat)(x:Arg)(q:Nat),tm 2=.ptr h.next 0->tm 3=.ptr a 0->h1.obj a=some (IT x)->(∃c1 c2,h1.obj h.next=some (aI [c1,c2] 2 67))->Fr h h1 (·=r)->h1.obj r=some (lN tk L.length q en rv) ->
   (∀h',Fr h h' (·=r)->h'.obj r=some (lN tk L.length q en rv)->R (.ret (.agg x.enc)) h')->qe.k1 (fun id=>M id\/h.next<=id) (Ab.cM Pg [.cell 2 67] R) (Ab.bx R) ⟨tm,[]⟩ h1:=by
  intro tm h1 a x q e2 e3 ha ⟨c1,c2,hq⟩ hf Di hR
  simp[e2,e3,ha,hq,acC,aav,AH.bK]
  exact hR _ (hf.put (.inr (zU _))) (by rw[AH.iM (nA lh).1];exact Di)
 simp only[qe.k8,qe.k7,aH]
 refine⟨rfl,?_⟩
 simp only[List.map_cons,List.map_nil,ai,eP,s0]
 simp[-qe.k6]
 refine⟨(·=r),fun _ h _=>h ▸ .inl hM,B_ rfl hL (p:=p) (L:=L) (tk:=tk) (en:=en) (rv:=rv) (by rw[AH.alloc_old lh];exact hr) (by rw[AH.alloc_old wI];exact ht) ?_⟩
 cases hn:eu L en p with
 |error e=>
  rw[hn]at hR
  intro h' h1
  exact⟨rfl,hR _ (ZA.trans (h1.mono fun _ h=>.inl h))⟩
 |ok nm=>
  rw[hn]at hR
  have aJ:p<L.length:=by
   unfold eu eQ at hn
   cases hg:L[p]? with
   |none=>rw[hg]at hn;cases hn
   |some t=>exact(zM.1 hg).1
  intro h1 f1 r1
  have ZY:=ZA.trans (f1.mono fun _ h=>.inl h)
  have q1:=f1.obj (AH.cg _ _) (nA lh).2.1
  have n1:=f1.next
  simp only[AH.bD]at n1
  have t1:=ZY.obj ht (bG ht hr (show(117:Nat)≠89 by decide))
  simp[-qe.k6,AH.bJ]
  have f2:=(ZY.alloc (aI [.sc (.string ⟨#[]⟩),.sc (.int .i64 0)] 2 67)).put (id:=h1.next) (off:=0) (cs:=[.sc (.string nm),.sc (.int .i64 (-1))]) (.inr (by omega))
  have r2:((h1.alloc (aI [.sc (.string ⟨#[]⟩),.sc (.int .i64 0)] 2 67)).put h1.next 0 [.sc (.string nm),.sc (.int .i64 (-1))]).obj r=some (lN tk L.length (p+1:Nat) en rv):=by
   have:=h1.lt _ _ r1
   simp[AH.bK,AH.bJ,nA this,r1]
  have a2:((h1.alloc (aI [.sc (.string ⟨#[]⟩),.sc (.int .i64 0)] 2 67)).put h1.next 0 [.sc (.string nm),.sc (.int .i64 (-1))]).obj h1.next=some (IT ⟨nm,-1⟩):=by simp[AH.bK,AH.bJ]
  have q2:((h1.alloc (aI [.sc (.string ⟨#[]⟩),.sc (.int .i64 0)] 2 67)).put h1.next 0 [.sc (.string nm),.sc (.int .i64 (-1))]).obj h.next=some (aI [.sc (.string ⟨#[]⟩),.sc (.int .i64 0)] 2 67):=by
   have:h.next<h1.next:=by omega
   simp[AH.bK,AH.bJ,nA this,q1]
  have t2:=f2.obj ht (bG ht hr (show(117:Nat)≠89 by decide))
  have an:h.next<h1.next:=by omega
  generalize (h1.alloc (aI [.sc (.string ⟨#[]⟩),.sc (.int .i64 0)] 2 67)).put h1.next 0 [.sc (.string nm),.sc (.int .i64 (-1))]=h2 at *
  generalize h1.next=a at *
  have an2:=h2.lt _ _ a2
  refine⟨.inr (by omega),?_⟩
  simp only[qe.k6,ai,eP]
  simp[-qe.k5]
  refine⟨fun _=>False,fun _ h=>h.elim,B6 r2 t2 ?_⟩
  cases n_:hU L (p+1) ub with
  |false=>
   simp only[n_,zE,if_false]at hR
   simp[-qe.k1]
   exact tail _ _ a ⟨nm,-1⟩ _ (by simp) (by simp) a2 ⟨_,_,q2⟩ f2 r2 hR
  |true=>
   simp only[n_,zV]at hR
   have Vp:p+1<L.length:=by
    unfold hU at n_
    cases hg:L[p+1]? with
    |none=>rw[hg]at n_;cases n_
    |some t=>exact(zM.1 hg).1
   have hw:IntKind.i64.wrap ((p:Int)+1+1)=((p+2:Nat):Int):=by rw[aX (by omega) (by omega)];omega
   simp[-qe.k3,r2,hM,hw]
   have f3:=f2.put (id:=r) (off:=1) (cs:=[.sc (.int .i64 ((p:Int)+2))]) (.inl rfl)
   have r3:(h2.put r 1 [.sc (.int .i64 ((p:Int)+2))]).obj r=some (lN tk L.length (p+2:Nat) en rv):=by simp[AH.bK,r2]
   have a3:(h2.put r 1 [.sc (.int .i64 ((p:Int)+2))]).obj a=some (IT ⟨nm,-1⟩):=by rw[AH.iM (by omega)];exact a2
   have q3:(h2.put r 1 [.sc (.int .i64 ((p:Int)+2))]).obj h.next=some (aI [.sc (.string ⟨#[]⟩),.sc (.int .i64 0)] 2 67):=by rw[AH.iM (by omega)];exact q2
   have t3:=f3.obj ht (bG ht hr (show(117:Nat)≠89 by decide))
   generalize h2.put r 1 [.sc (.int .i64 ((p:Int)+2))]=h3 at *
   have an3:=h3.lt _ _ a3
   simp only[qe.k3,ai,eP]
   simp[-qe.k2]
   refine⟨(·=r),fun _ h _=>h ▸ .inl hM,CX rfl hL hD hT r3 t3 ?_⟩
   cases Zl:dm L en (p+2) with
   |error e=>
    rw[Zl]at hR
    intro h' h1
    exact⟨rfl,hR _ (f3.trans (h1.mono fun _ h=>.inl h))⟩
   |ok n=>
    rw[Zl]at hR
    intro h4 f4 r4
    have a4:=f4.obj a3 (by omega)
    have q4:=f4.obj q3 (by omega)
    have f4':=f3.trans (f4.mono fun _ h=>.inl h)
    simp[-qe.k2,a4]
    have f5:=f4'.put (id:=a) (off:=1) (cs:=[.sc (.int .i64 n)]) (.inr (by omega))
    have r5:(h4.put a 1 [.sc (.int .i64 n)]).obj r=some (lN tk L.length (p+3:Nat) en rv):=by rw[AH.iM (by omega)];exact r4
    have a5:(h4.put a 1 [.sc (.int .i64 n)]).obj a=some (IT ⟨nm,n⟩):=by simp[AH.bK,a4]
    have q5:(h4.put a 1 [.sc (.int .i64 n)]).obj h.next=some (aI [.sc (.string ⟨#[]⟩),.sc (.int .i64 0)] 2 67):=by rw[AH.iM (by omega)];exact q4
    have t5:=f5.obj ht (bG ht hr (show(117:Nat)≠89 by decide))
    have HN:a<h4.next:=h4.lt _ _ a4
    refine⟨by omega,?_⟩
    generalize h4.put a 1 [.sc (.int .i64 n)]=h5 at *
    simp only[qe.k2,ai,eP]
    simp[-qe.k1]
    refine⟨(·=r),fun _ h _=>h ▸ .inl hM,BZ rfl hL r5 t5 ?_⟩
    cases Dh:kb L en (p+3) zp with
    |error e=>
     rw[Dh]at hR
     intro h' h1
     exact⟨rfl,hR _ (f5.trans (h1.mono fun _ h=>.inl h))⟩
    |ok t=>
     rw[Dh]at hR
     intro h6 f6 r6
     simp[-qe.k1]
     exact tail _ _ a ⟨nm,n⟩ _ (by simp) (by simp) (f6.obj a5 (by omega)) ⟨_,_,f6.obj q5 (by omega)⟩ (f5.trans (f6.mono fun _ h=>.inl h)) r6 hR
end
end
section
open Go.Ab
def ay(x:Row×AV):List AV:=[.sc (.string x.1.kind),.sc (.string x.1.name),x.2,.sc (.int .i64 x.1.num),.sc (.int .i64 x.1.rows),.sc (.int .i64 x.1.place)]
theorem fX(x:Row×AV):(ay x).length=6:=rfl
def eS(h:AH)(x:AV)(rows:List Row):Prop:=∃l:List (Row×AV),bC ay 6 46 h x l/\l.map (·.1)=rows/\∀y∈l,bC Arg.enc 2 67 h y.2 y.1.args
theorem eS.fr{h h':AH}{S:Nat->Prop}{x:AV}{rows:List Row}(hr:eS h x rows)(hf:Fr h h' S)(hx:∀id,x=.sl id 0 rows.length->¬S id)(ha:∀id o,h.obj id=some o->o.ty=67->¬S id):eS h' x rows:=by
 obtain⟨l,h1,h2,h3⟩:=hr
 refine⟨l,h1.bp hf (fun id he=>hx id (by rw[he,<-h2];simp)),h2,fun y hy=>?_⟩
 rcases h3 y hy with h4 |⟨id,h4,ho⟩
 ·exact .inl h4
 ·exact .inr ⟨id,h4,hf.obj ho (ha id _ ho rfl)⟩
theorem eS.nil{h:AH}:eS h aV []:=⟨[],.nil,rfl,by simp⟩
structure RS (h:AH) (r tk:Nat) (L:List Tok) (en:Int) (p:Nat) (rv:AV) (rows:List Row):Prop where
 r:h.obj r=some (lN tk L.length p en rv)
 t:h.obj tk=some (qI L)
 rows:eS h rv rows
theorem eS.id{h:AH}{x:AV}{rows:List Row}(hr:eS h x rows){id off n:Nat}(hx:x=.sl id off n):off=0/\n=rows.length/\∃o,h.obj id=some o/\o.ty=46:=by
 obtain⟨l,h1,h2,h3⟩:=hr
 rcases h1 with⟨h4,_⟩ |⟨pV,h4,ho⟩
 ·rw[h4]at hx;cases hx
 ·rw[h4]at hx;cases hx;exact⟨rfl,by rw[<-h2];simp,_,ho,rfl⟩
theorem RS.step{h h':AH}{r tk:Nat}{L:List Tok}{en:Int}{p p':Nat}{rv:AV}{rows:List Row}(hs:RS h r tk L en p rv rows)(hf:Fr h h' (·=r))(hr:h'.obj r=some (lN tk L.length p' en rv)):RS h' r tk L en p' rv rows:=by
 refine⟨hr,hf.obj hs.t (bG hs.t hs.r (show(117:Nat)≠89 by decide)),hs.rows.fr hf (fun id he hid=>?_) (fun id o ho js hid=>?_)⟩
 ·obtain⟨_,_,o,ho,js⟩:=hs.rows.id he
  exact bG ho hs.r (by rw[js];show(46:Nat)≠89;decide) hid
 ·exact bG ho hs.r (by rw[js];show(67:Nat)≠89;decide) hid
theorem RS.still{h h':AH}{r tk:Nat}{L:List Tok}{en:Int}{p:Nat}{rv:AV}{rows:List Row}(hs:RS h r tk L en p rv rows){v:Nat}(hf:Fr h h' (·=v))(hv:v≠r)(yG:∀id,rv=.sl id 0 rows.length->id≠v)(js:∀o,h.obj v=some o->o.ty≠117/\o.ty≠67):RS h' r tk L en p rv rows:=by
 refine⟨hf.obj hs.r (Ne.symm hv),hf.obj hs.t (fun e=>(js _ (e ▸ hs.t)).1 rfl),hs.rows.fr hf yG (fun id o ho ht hid=>?_)⟩
 subst hid
 exact(js _ ho).2 ht
def SS(r:Nat)(rv:AV)(id:Nat):Prop:=id=r\/∃n,rv=.sl id 0 n
theorem RS.yG{h:AH}{r tk:Nat}{L:List Tok}{en:Int}{p:Nat}{rv:AV}{rows:List Row}(hs:RS h r tk L en p rv rows):∀{id off n},rv=.sl id off n->off=0/\n=rows.length/\id<h.next:=by
 intro id off n he
 obtain⟨a,b,o,ho,_⟩:=hs.rows.id he
 exact⟨a,b,h.lt _ _ ho⟩
theorem eS.len{h:AH}{x:AV}{rows:List Row}(hr:eS h x rows):(a_ x=false)/\∀K,bO x K=K (.sc (.int .i64 rows.length)):=by
 obtain⟨l,h1,h2,h3⟩:=hr
 have:rows.length=l.length:=by rw[<-h2];simp
 rw[this]
 exact⟨(h1.len (K:=fun _=>True)).1,fun K=>(h1.len (K:=K)).2⟩
def WX(h:AH)(r tk:Nat)(L:List Tok)(en:Int)(rv:AV)(rows:List Row)(ret:Nat×List Row->AH->Prop)(b6:AV->AH->Prop)(res:iF (Nat×List Row)):Prop:=
 rQ res (fun x=>∀h' tu,RS h' r tk L en x.1 tu (rows++x.2)->Fr h h' (SS r rv)->df (fun id=>SS r rv id\/h.next<=id) tu->ret x h') (fun e=>∀h',Fr h h' (SS r rv)->b6 (dw e) h')
structure oB (L:List Tok):Prop where
 len:L.length<=65536
 Mj:GX L
 J6:∀t∈L,t.text.size<=65536
def GN(L:List Tok)(en:Int)(k:Nat):Prop:=∀{h:AH}{r tk:Nat}{rv:AV}{rows:List Row}{M:Nat->Prop}{R:AE->AH->Prop}{p:Nat}{d:Int},d=32-(k:Int)->(∀id,SS r rv id->M id)->RS h r tk L en p rv rows->p<=L.length->rows.length<=p ->
 WX h r tk L en rv rows (fun _ h'=>R (.ret (.cP [])) h') (fun v h'=>R (.b6 v) h') (gz L en k p)->aB Pg 35 [.ptr r 0,.sc (.int .i64 d)] h M R
def qf(L:List Tok)(en:Int)(k:Nat):Prop:=∀{h:AH}{r tk:Nat}{rv:AV}{rows:List Row}{M:Nat->Prop}{R:AE->AH->Prop}{p:Nat}{d:Int},d=33-(k:Int)->(∀id,SS r rv id->M id)->RS h r tk L en p rv rows->p<=L.length->rows.length<=p ->
 WX h r tk L en rv rows (fun x h'=>R (.ret (.sc (.int .i64 x.2.length))) h') (fun v h'=>R (.b6 v) h') (xm L en k (jL L en k) p)->aB Pg 64 [.ptr r 0,.sc (.int .i64 d)] h M R
theorem sX{h h1 h2:AH}{r:Nat}{rv Hs:AV}(a:Fr h h1 (SS r rv))(hi:df (fun id=>SS r rv id\/h.next<=id) Hs)(b:Fr h1 h2 (SS r Hs)):Fr h h2 (SS r rv):=
 a.trans (b.mono fun id hs=>by
  rcases hs with hs |⟨n,hn⟩
  ·exact .inl (.inl hs)
  ·exact hi id 0 n hn)
theorem Fk{h h1:AH}{r:Nat}{rv Hs AS:AV}(hn:h.next<=h1.next)(hi:df (fun id=>SS r rv id\/h.next<=id) Hs)(Vu:df (fun id=>SS r Hs id\/h1.next<=id) AS)(h2:∀{id off n},Hs=.sl id off n->off=0):df (fun id=>SS r rv id\/h.next<=id) AS:=by
 intro id off n he
 rcases Vu id off n he with(h3 |⟨m,h3⟩) |h3
 ·exact .inl (.inl h3)
 ·exact hi id 0 m h3
 ·exact .inr (zR hn h3)
section
variable {L:List Tok} {en:Int}
theorem If{k:Nat}(hL:oB L)(hs:∀k',k=k'+1->GN L en k'):qf L en k:=by
 intro h r tk rv rows M R p d hd hM da hp Ze hR
 have lh:=h.lt _ _ da.r
 have wI:=h.lt _ _ da.t
 have HW:=hM r (.inl rfl)
 have Bw:=hL.len
 apply rS.calls
 unfold xm at hR
 simp only[rS.gZ,rS.eF]
 simp[-rS.k9]
 refine⟨(·=r),fun _ h _=>h ▸ .inl HW,BZ rfl hL.len da.r da.t ?_⟩
 cases Dh:kb L en p kM with
 |error e=>
  rw[Dh]at hR
  intro h' h1
  exact⟨rfl,hR _ (h1.mono fun _ h=>.inl h)⟩
 |ok t=>
  rw[Dh]at hR
  have aJ:=zm Dh
  intro h1 f1 r1
  have rY:=da.step f1 r1
  have n1:=f1.next
  simp[-rS.k9,Tok.enc,AH.bJ]
  refine⟨.inr n1,?_⟩
  have f2:=(((Fr.refl (h:=h1) (S:=(·=h1.next))).alloc (aI [.sc (.int .i64 0),.sc (.string ⟨#[]⟩),.sc (.int .i64 0)] 3 117))).put (id:=h1.next) (off:=0) (cs:=[.sc (.int .i64 t.kind),.sc (.string t.text),.sc (.int .i64 t.at_)]) (.inl rfl)
  have c2:((h1.alloc (aI [.sc (.int .i64 0),.sc (.string ⟨#[]⟩),.sc (.int .i64 0)] 3 117)).put h1.next 0 [.sc (.int .i64 t.kind),.sc (.string t.text),.sc (.int .i64 t.at_)]).obj h1.next=some (ww t):=by simp[AH.bK,AH.bJ]
  have Xs:∀o,h1.obj h1.next=some o->False:=fun o ho=>by have:=h1.lt _ _ ho;omega
  have jM:=rY.still f2 (nA (h1.lt _ _ r1)).2.1 (fun id he=>by have:=rY.yG he;omega) (fun o ho=>(Xs o ho).elim)
  have QX:Fr h _ (SS r rv):=(f1.mono fun _ h=>.inl h).trans (f2.mono fun id (hid:id=h1.next)=>.inr (by omega))
  generalize (h1.alloc (aI [.sc (.int .i64 0),.sc (.string ⟨#[]⟩),.sc (.int .i64 0)] 3 117)).put h1.next 0 [.sc (.int .i64 t.kind),.sc (.string t.text),.sc (.int .i64 t.at_)]=h2 at *
  simp only[rS.k9,ai,eP]
  cases k with
  |zero=>
   have sD:(32:Int)<d:=by omega
   simp[-rS.k7,sD,c2]
   exact hR _ QX
  |succ k=>
   have sD:¬(32:Int)<d:=by omega
   simp only at hR
   simp[-rS.k6,sD,jM.r,jM.rows.len.1,jM.rows.len.2]
   unfold rS.k6
   have XB:jL L en (k+1)=gz L en k:=rfl
   rw[XB]at hR
   generalize hX:jO L (gz L en k) (L.length+1) (p+1) []=X at hR
   refine pB (ι:=Nat×Nat×List Row) (fun x s' h'=>s'.ds=[]/\s'.tm 0=.ptr r 0/\s'.tm 1=.sc (.int .i64 d)/\s'.tm 6=.sc (.int .i64 rows.length)/\x.2.1<=L.length/\L.length<x.2.1+x.1/\(rows++x.2.2).length<=x.2.1 /\
    jO L (gz L en k) x.1 x.2.1 x.2.2=X /\
    ∃tu,RS h' r tk L en x.2.1 tu (rows++x.2.2)/\Fr h h' (SS r rv)/\df (fun id=>SS r rv id\/h.next<=id) tu) (fun x=>x.1) (L.length+1,p+1,[]) ?_ ?_
   ·refine⟨rfl,by simp,by simp,by simp,by simp;omega,by simp;omega,by simp;omega,hX,rv,by simpa using jM,QX,fun id off n he=>?_⟩
    obtain⟨rfl,_,_⟩:=da.yG he
    exact .inl (.inr ⟨n,he⟩)
   rintro⟨n,q,acc⟩ ⟨tm,ds⟩ h' ⟨rfl,e0,e1,e6,hq,Fv,hlen,lQ,tu,oG,QW,vm⟩
   simp only at e0 e1 e6 hq Fv hlen lQ oG
   rw[rS.l1]
   cases n with
   |zero=>omega
   |succ n=>
    simp only[jO]at lQ
    simp only[rS.k5,e0]
    refine⟨fun _=>False,fun _ h=>h.elim,B6 oG.r oG.t ?_⟩
    cases n_:hU L q jw with
    |true=>
     simp only[n_,zV]at lQ
     rw[<-lQ]at hR
     have hw:IntKind.i64.wrap ((q:Int)+1)=(q:Int)+1:=aX (by omega) (by omega)
     have XM:=hlen
     rw[List.length_append]at XM
     have Qj:IntKind.i64.wrap (((rows++acc).length:Int)-rows.length)=acc.length:=by rw[List.length_append,aX (by omega) (by omega)];omega
     have f3:=(Fr.refl (h:=h') (S:=(·=r))).put (id:=r) (off:=1) (cs:=[.sc (.int .i64 ((q:Int)+1))]) (.inl rfl)
     have nt:=oG.step (p':=q+1) f3 (by simp[AH.bK,oG.r])
     have fr3:=sX QW vm (f3.mono fun _ h=>.inl h)
     simp[-rS.k1,e0,oG.r,HW,hw]
     generalize h'.put r 1 [.sc (.int .i64 ((q:Int)+1))]=h3 at *
     simp only[List.length_append,Int.natCast_add]at Qj
     simp[e6,e0,nt.r,nt.rows.len.1,nt.rows.len.2,Qj]
     exact hR _ _ nt fr3 vm
    |false=>
     simp only[n_,zE,if_false]at lQ
     simp only[d_,rS.k4,rS.k3,ai,eP,zT,zV,ap]
     simp only[Nat.reduceEqDiff,if_false,zV,e0,e1,zF,zC,zI,zD]
     refine⟨SS r tu,fun id hid _=>?_,hs k rfl (rv:=tu) (rows:=rows++acc) (p:=q) (by omega) (fun _ h=>h) oG hq hlen ?_⟩
     ·rcases hid with hid |⟨m,hid⟩
      ·exact hid ▸ .inl HW
      ·rcases vm id 0 m hid with h4 |h4
       ·exact .inl (hM _ h4)
       ·exact .inr h4
     cases eA:gz L en k q with
     |error e=>
      rw[eA]at lQ
      rw[<-lQ]at hR
      intro h4 f4
      exact⟨rfl,hR _ (sX QW vm f4)⟩
     |ok x=>
      obtain⟨q2,new⟩:=x
      rw[eA]at lQ
      simp only at lQ
      obtain⟨b1,b2,b3⟩:=zk k q q2 new eA
      intro h4 rv4 rs4 f4 in4
      simp only[bL]
      refine⟨(n,q2,acc++new),by simp,trivial,by simp[e0],by simp[e1],by simp[e6],b2,by simp;omega,by simp at hlen ⊢;omega,lQ,rv4,by simpa using rs4,sX QW vm f4,Fk QW.next vm in4 (fun he=>(oG.yG he).1)⟩
end
end
section
open Go.Ab
structure SI (h0 h:AH) (r tk:Nat) (L:List Tok) (en:Int) (dt:AV) (aW:List Row) (v p:Nat) (rv:AV) (d0:Row) (inner:List Row) (cells:List AV):Prop where
 fr:Fr h0 h (SS r dt)
 rs:RS h r tk L en p rv (aW++d0::inner)
 ins:df (fun id=>h0.next<=id/\id≠v) rv
 vo:h.obj v=some (aI cells 6 46)
 vn:h0.next<=v
 rn:r<h0.next
section
variable {h0 h h':AH} {r tk:Nat} {L:List Tok} {en:Int} {dt:AV} {aW:List Row} {v p:Nat} {rv:AV} {d0:Row} {inner:List Row} {cells:List AV}
theorem SI.vr(s:SI h0 h r tk L en dt aW v p rv d0 inner cells):v≠r:=by have:=s.vn;have:=s.rn;omega
theorem SI.call(s:SI h0 h r tk L en dt aW v p rv d0 inner cells){p':Nat}(hf:Fr h h' (·=r))(hr:h'.obj r=some (lN tk L.length p' en rv)):SI h0 h' r tk L en dt aW v p' rv d0 inner cells:=
 ⟨s.fr.trans (hf.mono fun _ h=>.inl (.inl h)),s.rs.step hf hr,s.ins,hf.obj s.vo s.vr,s.vn,s.rn⟩
theorem SI.quiet(s:SI h0 h r tk L en dt aW v p rv d0 inner cells)(hf:Fr h h' (fun _=>False)):SI h0 h' r tk L en dt aW v p rv d0 inner cells:=
 s.call (hf.mono fun _ h=>h.elim) (hf.obj s.rs.r fun h=>h)
theorem SI.set(s:SI h0 h r tk L en dt aW v p rv d0 inner cells)(off:Nat)(cs:List AV):SI h0 (h.put v off cs) r tk L en dt aW v p rv d0 inner (putCells cells off cs):=by
 have f:Fr h (h.put v off cs) (·=v):=Fr.refl.put (.inl rfl)
 refine⟨s.fr.trans (f.mono fun id (hid:id=v)=>.inr (hid ▸ s.vn)),s.rs.still f s.vr (fun id he=>(s.ins id 0 _ he).2) ?_,s.ins,ki s.vo,s.vn,s.rn⟩
 intro o ho
 rw[s.vo]at ho;cases ho
 exact⟨show(46:Nat)≠117 by decide,show(46:Nat)≠67 by decide⟩
theorem SI.body(s:SI h0 h r tk L en dt aW v p rv d0 inner cells){p':Nat}{tu:AV}{new:List Row}(da:RS h' r tk L en p' tu ((aW++d0::inner)++new))(hf:Fr h h' (SS r rv))(hi:df (fun id=>SS r rv id\/h.next<=id) tu) :
  SI h0 h' r tk L en dt aW v p' tu d0 (inner++new) cells:=by
 have hv:¬SS r rv v:=by
  rintro(h1 |⟨n,h1⟩)
  ·exact s.vr h1
  ·exact(s.ins v 0 n h1).2 rfl
 have rA:=h.lt _ _ s.vo
 refine⟨s.fr.trans (hf.mono fun id hid=>?_),by simpa using da,fun id off n he=>?_,hf.obj s.vo hv,s.vn,s.rn⟩
 ·rcases hid with h1 |⟨n,h1⟩
  ·exact .inl (.inl h1)
  ·exact .inr (s.ins id 0 n h1).1
 ·have h0:=(da.yG he).1
  rcases hi id off n he with(h1 |⟨m,h1⟩) |h1
  ·obtain⟨_,_,o,ho,js⟩:=da.rows.id he
   exact(bG ho da.r (by rw[js];show(46:Nat)≠89;decide) h1).elim
  ·exact s.ins id 0 m h1
  ·exact⟨zR s.vn (by omega),by omega⟩
theorem iD{a:AV}{l:List Arg}(ha:bC Arg.enc 2 67 h a l){S:Nat->Prop}(hf:Fr h h' S)(hS:∀id o,h.obj id=some o->o.ty=67->¬S id):bC Arg.enc 2 67 h' a l:=by
 rcases ha with h1 |⟨id,h1,ho⟩
 ·exact .inl h1
 ·exact .inr ⟨id,h1,hf.obj ho (hS id _ ho rfl)⟩
theorem SI.a_call(s:SI h0 h r tk L en dt aW v p rv d0 inner cells):∀id o,h.obj id=some o->o.ty=67->¬id=r:=fun id o ho ht=>bG ho s.rs.r (by rw[ht];show(67:Nat)≠89;decide)
theorem SI.Em(s:SI h0 h r tk L en dt aW v p rv d0 inner cells):∀id o,h.obj id=some o->o.ty=67->¬id=v:=fun id o ho ht=>bG ho s.vo (by rw[ht];show(67:Nat)≠46;decide)
theorem SI.WW(s:SI h0 h r tk L en dt aW v p rv d0 inner cells):∀id o,h.obj id=some o->o.ty=67->¬SS r rv id:=by
 rintro id o ho ht (h1 |⟨n,h1⟩)
 ·exact s.a_call id o ho ht h1
 ·obtain⟨_,_,o',dy,js⟩:=s.rs.rows.id h1
  exact bG ho dy (by rw[ht,js];show(67:Nat)≠46;decide) rfl
end
section
variable {h0 h:AH} {r tk:Nat} {L:List Tok} {en:Int} {dt:AV} {aW:List Row} {v p:Nat} {rv:AV} {d0:Row} {inner:List Row} {M:Nat->Prop} {R:AE->AH->Prop} {tm:Nat->AV} {a:AV} {row:Row}
def Fin(h0:AH)(r tk:Nat)(L:List Tok)(en:Int)(dt:AV)(aW:List Row)(R:AE->AH->Prop)(res:iF (Nat×List Row)):Prop:=WX h0 r tk L en dt aW (fun _ h'=>R (.ret (.cP [])) h') (fun v h'=>R (.b6 v) h') res
theorem Iv(s:SI h0 h r tk L en dt aW v p rv d0 inner (ay (row,a)))(ha:bC Arg.enc 2 67 h a row.args)(e0:tm 0=.ptr r 0)(e5:tm 5=.ptr v 0)(e6:tm 6=.sc (.int .i64 aW.length))
  (hR:Fin h0 r tk L en dt aW R (.ok (p,row::inner))):cZ.k1 (fun id=>M id\/h0.next<=id) (Ab.cM Pg [] R) (Ab.bx R) ⟨tm,[]⟩ h:=by
 obtain⟨l,h1,h2,h3⟩:=s.rs.rows
 rcases h1 with⟨_,h1⟩ |⟨id,hid,ho⟩
 ·subst h1;simp at h2
 obtain⟨A,l2,rfl,hA,HP⟩:=List.map_eq_append_iff.1 h2
 obtain⟨x,B,rfl,hx,hB⟩:=List.map_eq_cons_iff.1 HP
 have hAl:A.length=aW.length:=by rw[<-hA];simp
 obtain⟨i1,i2⟩:=s.ins id 0 _ hid
 have abM:id≠r:=by have:=s.rn;omega
 have Jf:=D2 fX A B x (row,a)
 have aJ:(aW.length:Int)<((A++x::B).length:Nat):=by simp;omega
 have abV:aW.length*6+6<=((A++x::B).flatMap ay).length:=by rw[gD fX];simp;omega
 rw[hAl]at Jf
 have f1:Fr h (h.put id (aW.length*6) (ay (row,a))) (·=id):=Fr.refl.put (.inl rfl)
 have o1:(h.put id (aW.length*6) (ay (row,a))).obj id=some (aI ((A++(row,a)::B).flatMap ay) 6 46):=by rw[ki ho,Jf]
 have rY:RS (h.put id (aW.length*6) (ay (row,a))) r tk L en p rv (aW++row::inner):=by
  have ak:∀pV o,h.obj pV=some o->o.ty=67->¬pV=id:=fun pV o dy ht=>bG dy ho (by rw[ht];show(67:Nat)≠46;decide)
  refine⟨f1.obj s.rs.r (Ne.symm abM),f1.obj s.rs.t (bG s.rs.t ho (show(117:Nat)≠46 by decide)),A++(row,a)::B,.inr ⟨id,by rw[hid];simp,o1⟩,by simp[hA,hB],fun y hy=>?_⟩
  rcases List.mem_append.1 hy with hy |hy
  ·exact iD (h3 y (by simp[hy])) f1 ak
  ·rcases List.mem_cons.1 hy with hy |hy
   ·subst hy;exact iD ha f1 ak
   ·exact iD (h3 y (by simp[hy])) f1 ak
 have rC:=hR _ _ rY (s.fr.trans (f1.mono fun i (hi:i=id)=>.inr (hi ▸ i1))) (fun i off n he=>.inr (s.ins i off n he).1)
 have hv:=s.vo
 have hr:=s.rs.r
 simp only[cZ.k1,e0,e5,e6,aL,aj,aF,nX,hr,hv,aA,mg]
 simp only[zG,zB,zA,ab,hid,o_,az,ho,cn,ib]
 have QB:(ay (row,a)).length=6:=rfl
 refine⟨by simp[QB],⟨by omega,aJ⟩,?_⟩
 rw[show List.drop 0 (ay (row,a))=ay (row,a) from rfl,List.take_of_length_le (by simp[QB])]
 rw[zY]
 exact⟨⟨.inr i1,by rcases ha with⟨rfl,_⟩ |⟨pV,rfl,_⟩<;>rfl,rfl,abV⟩,rfl,rC⟩
theorem XF(s:SI h0 h r tk L en dt aW v p rv d0 inner (ay (row,a)))(hM:∀id,SS r dt id->M id):∀id,SS r rv id->M id\/h0.next<=id:=by
 rintro id (h1 |⟨n,h1⟩)
 ·exact .inl (hM _ (.inl h1))
 ·exact .inr (s.ins id 0 n h1).1
theorem u6(hL:oB L)(hM:∀id,SS r dt id->M id)(s:SI h0 h r tk L en dt aW v p rv d0 [] (ay (row,a)))(ha:bC Arg.enc 2 67 h a row.args){fT:AV->Nat->AV}(e0:∀t,fT t 0=.ptr r 0)(e5:∀t,fT t 5=.ptr v 0)(e6:∀t,fT t 6=.sc (.int .i64 aW.length))
  (hR:Fin h0 r tk L en dt aW R (ja L en p row)) :
  aC Pg (fun id=>M id\/h0.next<=id) 62 [.ptr r 0,.sc (.string ⟨#[59]⟩)] h (fun t h'=>cZ.k1 (fun id=>M id\/h0.next<=id) (Ab.cM Pg [] R) (Ab.bx R) ⟨fT t,[]⟩ h') (Ab.bx R []):=by
 refine⟨(·=r),fun _ h _=>h ▸ .inl (hM r (.inl rfl)),BZ rfl hL.len s.rs.r s.rs.t ?_⟩
 unfold ja at hR
 cases hs:kb L en p l_ with
 |error e=>
  rw[hs]at hR
  intro h' h1
  exact⟨rfl,hR _ (s.fr.trans (h1.mono fun _ h=>.inl (.inl h)))⟩
 |ok t=>
  rw[hs]at hR
  intro h' f1 r1
  exact Iv (s.call f1 r1) (iD ha f1 s.a_call) (e0 _) (e5 _) (e6 _) hR
theorem Aw{k:Nat}{d:Int}(hL:oB L)(hb:qf L en k)(hd:d=33-(k:Int))(hM:∀id,SS r dt id->M id)(s:SI h0 h r tk L en dt aW v p rv d0 [] (ay (row,a)))(ha:bC Arg.enc 2 67 h a row.args)(hp:p<=L.length)(hlen:aW.length+1<=p)
  {fT:AV->AV->Nat->AV} (e0:∀t u,fT t u 0=.ptr r 0) (e5:∀t u,fT t u 5=.ptr v 0) (e6:∀t u,fT t u 6=.sc (.int .i64 aW.length))
  (hR:Fin h0 r tk L en dt aW R (jS L en k (jL L en k) p row)) :
  aC Pg (fun id=>M id\/h0.next<=id) 64 [.ptr r 0,.sc (.int .i64 d)] h (fun t h'=>ah (some 4) (.ptr v 0) fun u=>aE (some 1) u t h' (fun id=>M id\/h0.next<=id) fun DC=>cZ.k1 (fun id=>M id\/h0.next<=id) (Ab.cM Pg [] R) (Ab.bx R) ⟨fT t u,[]⟩ DC) (Ab.bx R []):=by
 refine⟨SS r rv,fun id hid _=>XF s hM id hid,hb hd (fun _ h=>h) s.rs hp (by simp;omega) ?_⟩
 unfold jS at hR
 cases hs:xm L en k (jL L en k) p with
 |error e=>
  rw[hs]at hR
  intro h' h1
  refine⟨rfl,hR _ (s.fr.trans (h1.mono fun id hid=>?_))⟩
  rcases hid with h2 |⟨n,h2⟩
  ·exact .inl (.inl h2)
  ·exact .inr (s.ins id 0 n h2).1
 |ok x=>
  obtain⟨p',new⟩:=x
  rw[hs]at hR
  intro h' tu oG f1 i1
  have s1:=s.body oG f1 i1
  have a1:=iD ha f1 s.WW
  have s2:=s1.set 4 [.sc (.int .i64 new.length)]
  have a2:=iD a1 (Fr.refl.put (h:=h') (S:=(·=v)) (id:=v) (off:=4) (cs:=[.sc (.int .i64 new.length)]) (.inl rfl)) s1.Em
  show ah (some 4) (.ptr v 0) _
  simp only[aj,az,s1.vo,eY,cn]
  refine⟨⟨.inr s.vn,rfl,rfl,by simp[ay]⟩,?_⟩
  exact Iv (row:={ row with rows:=new.length }) s2 a2 (e0 _ _) (e5 _ _) (e6 _ _) hR
end
end
section
open Go.Ab
def iP(h:AH)(x:AV)(rows:List Row)(a:AV):Prop:=∃l:List (Row×AV),bC ay 6 46 h x l/\l.map (·.1)=rows/\∀y∈l,bC Arg.enc 2 67 h y.2 y.1.args/\∀id off n B8 n',a=.sl id off n->y.2≠.sl id B8 n'
theorem iP.to{h:AH}{x:AV}{rows:List Row}{a:AV}(hr:iP h x rows a):eS h x rows:=let ⟨l,h1,h2,h3⟩:=hr;⟨l,h1,h2,fun y hy=>(h3 y hy).1⟩
theorem iP.nil{h:AH}{x:AV}{rows:List Row}(hr:eS h x rows):iP h x rows aV:=let ⟨l,h1,h2,h3⟩:=hr;⟨l,h1,h2,fun y hy=>⟨h3 y hy,fun _ _ _ _ _ he=>by cases he⟩⟩
theorem iP.fr{h h':AH}{S:Nat->Prop}{x:AV}{rows:List Row}{a:AV}(hr:iP h x rows a)(hf:Fr h h' S)(hx:∀id,x=.sl id 0 rows.length->¬S id)(ha:∀id o,h.obj id=some o->o.ty=67->¬S id):iP h' x rows a:=by
 obtain⟨l,h1,h2,h3⟩:=hr
 exact⟨l,h1.bp hf (fun id he=>hx id (by rw[he,<-h2];simp)),h2,fun y hy=>⟨iD (h3 y hy).1 hf ha,(h3 y hy).2⟩⟩
section
variable {h0 h h':AH} {r tk:Nat} {L:List Tok} {en:Int} {dt:AV} {aW:List Row} {v p:Nat} {rv:AV} {d0:Row} {inner:List Row} {cells:List AV} {a y:AV} {acc:List Arg}
theorem iP.call(ra:iP h rv (aW++d0::inner) a)(s:SI h0 h r tk L en dt aW v p rv d0 inner cells)(hf:Fr h h' (·=r)):iP h' rv (aW++d0::inner) a:=
 ra.fr hf (fun id he hid=>by
  obtain⟨_,_,o,ho,js⟩:=s.rs.rows.id he
  exact bG ho s.rs.r (by rw[js];show(46:Nat)≠89;decide) hid) s.a_call
theorem iP.set(ra:iP h rv (aW++d0::inner) a)(s:SI h0 h r tk L en dt aW v p rv d0 inner cells)(off:Nat)(cs:List AV):iP (h.put v off cs) rv (aW++d0::inner) a:=
 ra.fr (Fr.refl.put (S:=(·=v)) (.inl rfl)) (fun id he=>(s.ins id 0 _ he).2) s.Em
theorem SI.dY(s:SI h0 h r tk L en dt aW v p rv d0 inner cells)(ra:iP h rv (aW++d0::inner) a)(ha:bC Arg.enc 2 67 h a acc)(jd:df (h0.next<=·) a)(hf:Fr h h' (fun i=>∃off n,a=.sl i off n))(hy:df (h.next<=·) y) :
  SI h0 h' r tk L en dt aW v p rv d0 inner cells/\iP h' rv (aW++d0::inner) y:=by
 have aty:∀i,(∃off n,a=.sl i off n)->∃o,h.obj i=some o/\o.ty=67:=by
  rintro i ⟨off,n,he⟩
  rcases ha with⟨h1,_⟩ |⟨id,h1,ho⟩
  ·rw[h1]at he;cases he
  ·rw[h1]at he;cases he;exact⟨_,ho,rfl⟩
 have not:∀i o,h.obj i=some o->o.ty≠67->¬ ∃off n,a=.sl i off n:=fun i o ho b7 he=>by
  obtain⟨o',dy,ht⟩:=aty i he
  rw[ho]at dy;cases dy;exact b7 ht
 have YH:iP h' rv (aW++d0::inner) y:=by
  obtain⟨l,h1,h2,h3⟩:=ra
  refine⟨l,h1.bp hf (fun id he=>?_),h2,fun z hz=>⟨?_,fun id off n B8 n' he oN=>?_⟩⟩
  ·rcases h1 with⟨h4,_⟩ |⟨pV,h4,ho⟩
   ·rw[h4]at he;cases he
   ·rw[h4]at he;cases he;exact not _ _ ho (show(46:Nat)≠67 by decide)
  ·obtain⟨h4,h5⟩:=h3 z hz
   rcases h4 with h4 |⟨id,h4,ho⟩
   ·exact .inl h4
   ·refine .inr ⟨id,h4,hf.obj ho ?_⟩
    rintro⟨off,n,he⟩
    exact h5 id off n _ _ he h4
  ·have h6:=hy id off n he
   obtain⟨h4,_⟩:=h3 z hz
   rcases h4 with⟨h4,_⟩ |⟨pV,h4,ho⟩
   ·rw[h4]at oN;cases oN
   ·rw[h4]at oN;cases oN
    have:=h.lt _ _ ho
    omega
 refine⟨⟨s.fr.trans (hf.mono fun id hid=>?_),⟨hf.obj s.rs.r (not _ _ s.rs.r (show(89:Nat)≠67 by decide)),hf.obj s.rs.t (not _ _ s.rs.t (show(117:Nat)≠67 by decide)),YH.to⟩,s.ins,hf.obj s.vo (not _ _ s.vo (show(46:Nat)≠67 by decide)),s.vn,s.rn⟩,YH⟩
 obtain⟨off,n,he⟩:=hid
 exact .inr (jd id off n he)
end
section
variable {h0 h:AH} {r tk:Nat} {L:List Tok} {en:Int} {dt:AV} {aW:List Row} {v p:Nat} {rv:AV} {d0:Row} {inner:List Row} {cells:List AV} {M:Nat->Prop} {R:AE->AH->Prop}
theorem BY(hL:oB L)(hM:∀id,SS r dt id->M id)(s:SI h0 h r tk L en dt aW v p rv d0 inner cells)(hc:cells.length=6){C:KT}{fT:AV->AV->Nat->AV}{off:Nat}(ho:off<6)
  (wQ:∀e,eu L en p=.error e->∀h',Fr h0 h' (SS r dt)->R (.b6 (dw e)) h')
  (cA:∀nm,eu L en p=.ok nm->∀u h',SI h0 h' r tk L en dt aW v (p+1) rv d0 inner (putCells cells off [.sc (.string nm)])->C ⟨fT (.sc (.string nm)) u,[]⟩ h') :
  aC Pg (fun id=>M id\/h0.next<=id) 60 [.ptr r 0] h (fun t h'=>ah (some off) (.ptr v 0) fun u=>aE (some 1) u t h' (fun id=>M id\/h0.next<=id) fun DC=>C ⟨fT t u,[]⟩ DC) (Ab.bx R []):=by
 refine⟨(·=r),fun _ h _=>h ▸ .inl (hM r (.inl rfl)),B_ rfl hL.len s.rs.r s.rs.t ?_⟩
 cases hs:eu L en p with
 |error e=>intro h' h1;exact⟨rfl,wQ e hs _ (s.fr.trans (h1.mono fun _ h=>.inl (.inl h)))⟩
 |ok nm=>
  intro h' f1 r1
  have s1:=s.call f1 r1
  have s2:=s1.set off [.sc (.string nm)]
  show ah (some off) (.ptr v 0) _
  simp only[aj,az,s1.vo,qY,cn,zG]
  exact⟨⟨.inr s.vn,rfl,rfl,by omega⟩,cA nm hs _ _ s2⟩
theorem v7(hL:oB L)(hM:∀id,SS r dt id->M id)(s:SI h0 h r tk L en dt aW v p rv d0 inner cells)(hc:cells.length=6){C:KT}{fT:AV->AV->Nat->AV}{off:Nat}(ho:off<6)
  (wQ:∀e,dm L en p=.error e->∀h',Fr h0 h' (SS r dt)->R (.b6 (dw e)) h')
  (cA:∀nm,dm L en p=.ok nm->∀u h',SI h0 h' r tk L en dt aW v (p+1) rv d0 inner (putCells cells off [.sc (.int .i64 nm)])->C ⟨fT (.sc (.int .i64 nm)) u,[]⟩ h') :
  aC Pg (fun id=>M id\/h0.next<=id) 61 [.ptr r 0] h (fun t h'=>ah (some off) (.ptr v 0) fun u=>aE (some 1) u t h' (fun id=>M id\/h0.next<=id) fun DC=>C ⟨fT t u,[]⟩ DC) (Ab.bx R []):=by
 refine⟨(·=r),fun _ h _=>h ▸ .inl (hM r (.inl rfl)),CX rfl hL.len hL.Mj hL.J6 s.rs.r s.rs.t ?_⟩
 cases hs:dm L en p with
 |error e=>intro h' h1;exact⟨rfl,wQ e hs _ (s.fr.trans (h1.mono fun _ h=>.inl (.inl h)))⟩
 |ok nm=>
  intro h' f1 r1
  have s1:=s.call f1 r1
  have s2:=s1.set off [.sc (.int .i64 nm)]
  show ah (some off) (.ptr v 0) _
  simp only[aj,az,s1.vo,eY,cn,zG]
  exact⟨⟨.inr s.vn,rfl,rfl,by omega⟩,cA nm hs _ _ s2⟩
end
end
section
open Go.Ab
section
variable {h0 h:AH} {r tk:Nat} {L:List Tok} {en:Int} {dt:AV} {aW:List Row} {v p:Nat} {rv:AV} {d0:Row} {M:Nat->Prop} {R:AE->AH->Prop} {tm:Nat->AV}
structure TM (tm:Nat->AV) (r v:Nat) (d:Int) (n:Nat):Prop where
 e0:tm 0=.ptr r 0
 e1:tm 1=.sc (.int .i64 d)
 e5:tm 5=.ptr v 0
 e6:tm 6=.sc (.int .i64 n)
theorem TM.ai{tm:Nat->AV}{r v:Nat}{d:Int}{n:Nat}(t:TM tm r v d n):∀(l:List (Nat×AV)),(∀x∈l,6<x.1)->TM (ai tm l) r v d n
 |[],_=>t
 |x::l,h=>by
  have hx:=h x (by simp)
  exact TM.ai (tm:=Go.Ab.eP tm x.1 x.2) ⟨by rw[lH (by omega)];exact t.e0,by rw[lH (by omega)];exact t.e1,by rw[lH (by omega)];exact t.e5,by rw[lH (by omega)];exact t.e6⟩ l (fun y hy=>h y (by simp[hy]))
theorem Pj{d:Int}(hL:oB L)(hM:∀id,SS r dt id->M id){k:ByteArray}{pl:Int}(s:SI h0 h r tk L en dt aW v p rv d0 [] (ay (⟨k,cQ,[],0,0,pl⟩,aV)))(kI:TM tm r v d aW.length)
  (hR:Fin h0 r tk L en dt aW R (match eu L en p with |.error e=>.error e |.ok nm=>match dm L en (p+1) with |.error e=>.error e |.ok n=>ja L en (p+2) ⟨k,nm,[],n,0,pl⟩)) :
  cZ.k4 (fun id=>M id\/h0.next<=id) (Ab.cM Pg [] R) (Ab.bx R) ⟨tm,[]⟩ h:=by
 simp only[cZ.k4,kI.e0,kI.e5]
 refine BY hL hM s rfl (fT:=fun t u=>ai tm [(73,.ptr r 0),(74,t),(75,u)]) (by decide) (fun e he=>?_) (fun nm hn u h1 s1=>?_)
 ·rw[he]at hR;exact hR
 rw[hn]at hR
 have t1:=kI.ai [(73,.ptr r 0),(74,.sc (.string nm)),(75,u)] (by simp)
 generalize ai tm [(73,.ptr r 0),(74,.sc (.string nm)),(75,u)]=pT at *
 simp only[cZ.k3,t1.e0,t1.e5]
 refine v7 hL hM s1 rfl (fT:=fun t u=>ai pT [(76,.ptr r 0),(77,t),(78,u)]) (by decide) (fun e he=>?_) (fun n hn u h2 s2=>?_)
 ·rw[he]at hR;exact hR
 rw[hn]at hR
 have t2:=t1.ai [(76,.ptr r 0),(77,.sc (.int .i64 n)),(78,u)] (by simp)
 generalize ai pT [(76,.ptr r 0),(77,.sc (.int .i64 n)),(78,u)]=eW at *
 simp only[cZ.k2,t2.e0]
 have t3:=fun t=>t2.ai [(79,.ptr r 0),(80,t)] (by simp)
 exact u6 (row:=⟨k,nm,[],n,0,pl⟩) (a:=aV) hL hM s2 .nil (fun t=>(t3 t).e0) (fun t=>(t3 t).e5) (fun t=>(t3 t).e6) hR
theorem Ta{d:Int}{kk:Nat}(hL:oB L)(hb:qf L en kk)(hd:d=32-(kk:Int))(kz:kk<=32)(hlen:aW.length+1<=p)(hM:∀id,SS r dt id->M id){k:ByteArray}{pl:Int}(s:SI h0 h r tk L en dt aW v p rv d0 [] (ay (⟨k,cQ,[],0,0,pl⟩,aV)))(kI:TM tm r v d aW.length)
  (hR:Fin h0 r tk L en dt aW R (match dm L en p with |.error e=>.error e |.ok n=>jS L en kk (jL L en kk) (p+1) ⟨k,cQ,[],n,0,pl⟩)) :
  cZ.kq (fun id=>M id\/h0.next<=id) (Ab.cM Pg [] R) (Ab.bx R) ⟨tm,[]⟩ h:=by
 simp only[cZ.kq,kI.e0,kI.e5]
 refine v7 hL hM s rfl (fT:=fun t u=>ai tm [(103,.ptr r 0),(104,t),(105,u)]) (by decide) (fun e he=>?_) (fun n hn u h2 s2=>?_)
 ·rw[he]at hR;exact hR
 rw[hn]at hR
 have aJ:=A8 hn
 have t2:=kI.ai [(103,.ptr r 0),(104,.sc (.int .i64 n)),(105,u)] (by simp)
 generalize ai tm [(103,.ptr r 0),(104,.sc (.int .i64 n)),(105,u)]=eW at *
 have hw:IntKind.i64.wrap (d+1)=d+1:=aX (by omega) (by omega)
 simp only[cZ.gZ,t2.e0,t2.e1,t2.e5,bg,hw]
 have t3:=fun t u=>t2.ai [(106,.ptr r 0),(107,.sc (.int .i64 d)),(108,.sc (.int .i64 (d+1))),(109,t),(110,u)] (by simp)
 exact Aw (row:=⟨k,cQ,[],n,0,pl⟩) (a:=aV) hL hb (by omega) hM s2 .nil (by omega) (by omega) (fun t u=>(t3 t u).e0) (fun t u=>(t3 t u).e5) (fun t u=>(t3 t u).e6) hR
theorem W_{d:Int}{kk:Nat}(hL:oB L)(hb:qf L en kk)(hd:d=32-(kk:Int))(kz:kk<=32)(hlen:aW.length+1<=p)(hM:∀id,SS r dt id->M id){k:ByteArray}{pl:Int}(s:SI h0 h r tk L en dt aW v p rv d0 [] (ay (⟨k,cQ,[],0,0,pl⟩,aV)))(kI:TM tm r v d aW.length)
  (hR:Fin h0 r tk L en dt aW R (match eu L en p with |.error e=>.error e |.ok nm=>match dm L en (p+1) with |.error e=>.error e |.ok n=>jS L en kk (jL L en kk) (p+2) ⟨k,nm,[],n,0,pl⟩)) :
  cZ.nY (fun id=>M id\/h0.next<=id) (Ab.cM Pg [] R) (Ab.bx R) ⟨tm,[]⟩ h:=by
 simp only[cZ.nY,kI.e0,kI.e5]
 refine BY hL hM s rfl (fT:=fun t u=>ai tm [(113,.ptr r 0),(114,t),(115,u)]) (by decide) (fun e he=>?_) (fun nm hn u h1 s1=>?_)
 ·rw[he]at hR;exact hR
 rw[hn]at hR
 have t1:=kI.ai [(113,.ptr r 0),(114,.sc (.string nm)),(115,u)] (by simp)
 generalize ai tm [(113,.ptr r 0),(114,.sc (.string nm)),(115,u)]=pT at *
 simp only[cZ.nD,t1.e0,t1.e5]
 refine v7 hL hM s1 rfl (fT:=fun t u=>ai pT [(116,.ptr r 0),(117,t),(118,u)]) (by decide) (fun e he=>?_) (fun n hn u h2 s2=>?_)
 ·rw[he]at hR;exact hR
 rw[hn]at hR
 have aJ:=A8 hn
 have t2:=t1.ai [(116,.ptr r 0),(117,.sc (.int .i64 n)),(118,u)] (by simp)
 generalize ai pT [(116,.ptr r 0),(117,.sc (.int .i64 n)),(118,u)]=eW at *
 have hw:IntKind.i64.wrap (d+1)=d+1:=aX (by omega) (by omega)
 simp only[cZ.mR,t2.e0,t2.e1,t2.e5,bg,hw]
 have t3:=fun t u=>t2.ai [(119,.ptr r 0),(120,.sc (.int .i64 d)),(121,.sc (.int .i64 (d+1))),(122,t),(123,u)] (by simp)
 exact Aw (row:=⟨k,nm,[],n,0,pl⟩) (a:=aV) hL hb (by omega) hM s2 .nil (by omega) (by omega) (fun t u=>(t3 t u).e0) (fun t u=>(t3 t u).e5) (fun t u=>(t3 t u).e6) hR
end
end
section
open Go.Ab
section
variable {h0 h:AH} {r tk:Nat} {L:List Tok} {en:Int} {dt:AV} {aW:List Row} {v p:Nat} {rv:AV} {d0:Row} {M:Nat->Prop} {R:AE->AH->Prop} {tm:Nat->AV}
theorem BX{inner:List Row}{k nm:ByteArray}{acc:List Arg}{pl:Int}{a:AV}{x:Arg}{W:Nat->Prop}{K:AV->AV->AH->Prop}(hW:∀id,h0.next<=id->W id)(s:SI h0 h r tk L en dt aW v p rv d0 inner (ay (⟨k,nm,acc,0,0,pl⟩,a)))
  (ra:iP h rv (aW++d0::inner) a) (ha:bC Arg.enc 2 67 h a acc) (jd:df (h0.next<=·) a) (hn:acc.length<=65536)
  (hK:∀v1 y h',SI h0 h' r tk L en dt aW v p rv d0 inner (ay (⟨k,nm,acc++[x],0,0,pl⟩,y))->iP h' rv (aW++d0::inner) y->bC Arg.enc 2 67 h' y (acc++[x])->df (h0.next<=·) y->K v1 y h') :
  dK (some (2,67,[.string ⟨#[]⟩,.int .i64 0])) 1 [(0,.agg x.enc)] h fun v1 h4=>eh (some (2,24,67)) a v1 h4 W fun y h5=>aE (some 1) (.ptr v 2) y h5 W fun h6=>K v1 y h6:=by
 refine sN (f:=Arg.enc) (K:=fun v1 y h5=>aE (some 1) (.ptr v 2) y h5 W fun h6=>K v1 y h6) Arg.b8 (by decide) rfl Arg.h_ (by decide) ha (fun id off n he=>hW _ (jd id off n he)) (by omega) ?_
 intro v1 y h5 hy iy f5
 obtain⟨s5,ra5⟩:=s.dY ra ha jd f5 iy
 obtain⟨id,hid⟩:=hy.sl (by simp)
 have iy':df (h0.next<=·) y:=fun i off n he=>zR (zR s.vn (by have:=h.lt _ _ s.vo;omega)) (iy i off n he)
 have s6:=s5.set 2 [y]
 have Hv:=ra5.set s5 2 [y]
 have Bh:=iD hy (Fr.refl.put (h:=h5) (S:=(·=v)) (id:=v) (off:=2) (cs:=[y]) (.inl rfl)) s5.Em
 subst hid
 simp only[az,s5.vo,Mx,cn]
 exact⟨⟨hW _ s.vn,rfl,rfl,by simp[ay]⟩,hK _ _ _ s6 Hv Bh iy'⟩
theorem Pn{d:Int}{kk:Nat}(hL:oB L)(hb:qf L en kk)(hd:d=32-(kk:Int))(kz:kk<=32)(hlen:aW.length+1<=p)(hM:∀id,SS r dt id->M id){k:ByteArray}{pl:Int}(s:SI h0 h r tk L en dt aW v p rv d0 [] (ay (⟨k,cQ,[],0,0,pl⟩,aV)))(kI:TM tm r v d aW.length)
  (hR:Fin h0 r tk L en dt aW R (match eu L en p with |.error e=>.error e |.ok nm=>match jn L en (L.length+1) (p+1) [] with |.error e=>.error e |.ok (l,p')=>jS L en kk (jL L en kk) p' ⟨k,nm,l,0,0,pl⟩)) :
  cZ.eF (fun id=>M id\/h0.next<=id) (Ab.cM Pg [] R) (Ab.bx R) ⟨tm,[]⟩ h:=by
 simp only[cZ.eF,kI.e0,kI.e5]
 refine BY hL hM s rfl (fT:=fun t u=>ai tm [(83,.ptr r 0),(84,t),(85,u)]) (by decide) (fun e he=>?_) (fun nm hn u h1 s1=>?_)
 ·rw[he]at hR;exact hR
 rw[hn]at hR
 have aJ:=(pg hn).1
 have t1:=kI.ai [(83,.ptr r 0),(84,.sc (.string nm)),(85,u)] (by simp)
 generalize ai tm [(83,.ptr r 0),(84,.sc (.string nm)),(85,u)]=pT at *
 unfold cZ.k9
 simp only at hR
 generalize hX:jn L en (L.length+1) (p+1) []=X at hR
 have Bw:=hL.len
 refine pB (ι:=Nat×Nat×List Arg) (fun x s' h'=>s'.ds=[]/\TM s'.tm r v d aW.length/\x.2.1<=L.length/\L.length<x.2.1+x.1/\x.2.2.length<=x.2.1/\aW.length+1<=x.2.1/\jn L en x.1 x.2.1 x.2.2=X /\
  ∃a,SI h0 h' r tk L en dt aW v x.2.1 rv d0 [] (ay (⟨k,nm,x.2.2,0,0,pl⟩,a))/\iP h' rv (aW++d0::[]) a/\bC Arg.enc 2 67 h' a x.2.2/\df (h0.next<=·) a) (fun x=>x.1) (L.length+1,p+1,[]) ?_ ?_
 ·exact⟨rfl,t1,by simp only;omega,by simp only;omega,by simp,by simp only;omega,hX,aV,s1,.nil s1.rs.rows,.nil,fun _ _ _ he=>by cases he⟩
 rintro⟨n,q,acc⟩ ⟨eW,ds⟩ h2 ⟨rfl,t2,hq,Fv,sW,Zp,mW,a,s2,Kp,ln,Jg⟩
 simp only at t2 hq Fv sW Zp mW s2 Kp ln
 rw[cZ.l1]
 cases n with
 |zero=>omega
 |succ n=>
  simp only[jn]at mW
  simp only[cZ.k8,t2.e0]
  refine⟨fun _=>False,fun _ h=>h.elim,zs s2.rs.r s2.rs.t ?_⟩
  have t3:=fun b=>t2.ai [(86,.ptr r 0),(87,.sc (.bool b))] (by simp)
  cases jQ:jm L q with
  |false=>
   simp only[jQ,zE,if_false]at mW
   rw[<-mW]at hR
   have Ge:ai eW [(86,.ptr r 0),(87,.sc (.bool false))] 87=.sc (.bool false):=by simp
   have t4:=t3 false
   show cZ.k7 _ _ _ ⟨ai eW [(86,.ptr r 0),(87,.sc (.bool false))],[]⟩ h2
   generalize ai eW [(86,.ptr r 0),(87,.sc (.bool false))]=nP at *
   have hw:IntKind.i64.wrap (d+1)=d+1:=aX (by omega) (by omega)
   simp only[cZ.k7,Ge,ap,zE,zC,zH,zD,bL,eI,zV]
   simp only[cZ.k5,t4.e0,t4.e1,t4.e5,bg,hw]
   have t5:=fun t u=>t4.ai [(96,.ptr r 0),(97,.sc (.int .i64 d)),(98,.sc (.int .i64 (d+1))),(99,t),(100,u)] (by simp)
   exact Aw (row:=⟨k,nm,acc,0,0,pl⟩) (a:=a) hL hb (by omega) hM s2 ln hq Zp (fun t u=>(t5 t u).e0) (fun t u=>(t5 t u).e5) (fun t u=>(t5 t u).e6) hR
  |true=>
   simp only[jQ,zV]at mW
   have Ge:ai eW [(86,.ptr r 0),(87,.sc (.bool true))] 87=.sc (.bool true):=by simp
   have t4:=t3 true
   show cZ.k7 _ _ _ ⟨ai eW [(86,.ptr r 0),(87,.sc (.bool true))],[]⟩ h2
   generalize ai eW [(86,.ptr r 0),(87,.sc (.bool true))]=nP at *
   simp only[cZ.k7,Ge,ap,zF,zC,zI,zD]
   simp only[cZ.k6]
   refine⟨fun _=>v,by simp[s2.vo],?_⟩
   simp only[t4.e5,t4.e0,aj,aF,s2.vo,aA,zG]
   simp only[ay,zB,zA,ab]
   refine⟨by simp,(·=r),fun id hid _=>?_,B_ rfl hL.len s2.rs.r s2.rs.t ?_⟩
   ·have:=s2.vr
    exact hid ▸ ⟨.inl (hM r (.inl rfl)),by simp;exact fun e=>this e.symm⟩
   cases hs:eu L en q with
   |error e=>
    rw[hs]at mW
    rw[<-mW]at hR
    intro h' f3
    exact⟨rfl,hR _ (s2.fr.trans (f3.mono fun _ h=>.inl (.inl h)))⟩
   |ok PU=>
    rw[hs]at mW
    simp only at mW
    intro h3 f3 r3
    have s3:=s2.call f3 r3
    have TR:=Kp.call s2 f3
    have Du:=iD ln f3 s2.a_call
    have abG:=(pg hs).1
    refine⟨Arg.enc ⟨PU,-1⟩,rfl,?_⟩
    show dK (some (2,67,[.string ⟨#[]⟩,.int .i64 0])) 1 [(0,.agg (Arg.enc ⟨PU,-1⟩))] h3 _
    refine BX (x:=⟨PU,-1⟩) (fun id hid=>Or.inr hid) s3 TR Du Jg (by omega) ?_
    intro v1 y h6 s6 Hv Bh Qd
    simp only[bL]
    exact⟨(n,q+1,acc++[⟨PU,-1⟩]),by simp,trivial,t4.ai _ (by simp),by simp only;omega,by simp only;omega,by simp;omega,by simp only;omega,mW,y,s6,Hv,Bh,Qd⟩
theorem Pk{d:Int}(hL:oB L)(hM:∀id,SS r dt id->M id)(hp:p<=L.length){k:ByteArray}{pl:Int}(s:SI h0 h r tk L en dt aW v p rv d0 [] (ay (⟨k,cQ,[],0,0,pl⟩,aV)))(kI:TM tm r v d aW.length)
  (hR:Fin h0 r tk L en dt aW R (match gR L en p with |.error e=>.error e |.ok (a,p1)=>match gR L en p1 with |.error e=>.error e |.ok (b,p2)=>ja L en p2 ⟨k,cQ,[a,b],0,0,pl⟩)) :
  cZ.nC (fun id=>M id\/h0.next<=id) (Ab.cM Pg [] R) (Ab.bx R) ⟨tm,[]⟩ h:=by
 simp only[cZ.nC]
 refine⟨fun _=>v,by simp[s.vo],?_⟩
 simp only[kI.e5,kI.e0,aj,aF,s.vo,aA,zG]
 have hW:∀id,id=r->id<h.next->(M id\/h0.next<=id)/\∀i∈[1],id≠(fun _=>v) i:=fun id hid _=>by
  have:=s.vr
  exact hid ▸ ⟨.inl (hM r (.inl rfl)),by simp;exact fun e=>this e.symm⟩
 refine⟨by simp,(·=r),hW,pM rfl hL.len hp hL.Mj hL.J6 s.rs.r s.rs.t ?_⟩
 cases h1:gR L en p with
 |error e=>
  rw[h1]at hR
  intro h' f3
  exact⟨rfl,hR _ (s.fr.trans (f3.mono fun _ h=>.inl (.inl h)))⟩
 |ok x=>
  obtain⟨a,p1⟩:=x
  rw[h1]at hR
  simp only at hR
  intro h3 f3 r3
  have s3:=s.call f3 r3
  have b1:=mr h1
  refine⟨(·=r),fun id hid aJ=>?_,pM rfl hL.len b1.2 hL.Mj hL.J6 s3.rs.r s3.rs.t ?_⟩
  ·have:=s.vr
   exact hid ▸ ⟨.inl (hM r (.inl rfl)),by simp;exact fun e=>this e.symm⟩
  cases h2:gR L en p1 with
  |error e=>
   rw[h2]at hR
   intro h' f4
   exact⟨rfl,hR _ (s3.fr.trans (f4.mono fun _ h=>.inl (.inl h)))⟩
  |ok x=>
   obtain⟨b,p2⟩:=x
   rw[h2]at hR
   simp only at hR
   intro h4 f4 r4
   have s4:=s3.call f4 r4
   show dK (some (2,67,[.string ⟨#[]⟩,.int .i64 0,.string ⟨#[]⟩,.int .i64 0])) 2 [(0,.agg a.enc),(1,.agg b.enc)] h4 _
   refine X_ (f:=Arg.enc) Arg.b8 (by decide) rfl Arg.h_ (by decide) ?_
   intro v1 y h5 hy iy f5
   have s5:=s4.quiet f5
   obtain⟨id,hid⟩:=hy.sl (by simp)
   have s6:=s5.set 2 [y]
   have Bh:=iD hy (Fr.refl.put (h:=h5) (S:=(·=v)) (id:=v) (off:=2) (cs:=[y]) (.inl rfl)) s5.Em
   have ey:b_ y=some [y]:=by subst hid;rfl
   simp only[az,s5.vo,ey,cn]
   refine⟨⟨.inr s.vn,by subst hid;rfl,rfl,by simp[ay]⟩,?_⟩
   have t4:=kI.ai [(126,.ptr v 2),(127,aV),(128,.ptr r 0),(130,.ptr r 0),(129,.agg a.enc),(131,.agg b.enc),(132,v1),(133,y),(134,.ptr v 2)] (by simp)
   show cZ.oJ _ _ _ ⟨ai tm [(126,.ptr v 2),(127,aV),(128,.ptr r 0),(130,.ptr r 0),(129,.agg a.enc),(131,.agg b.enc),(132,v1),(133,y),(134,.ptr v 2)],[]⟩ _
   generalize ai tm [(126,.ptr v 2),(127,aV),(128,.ptr r 0),(130,.ptr r 0),(129,.agg a.enc),(131,.agg b.enc),(132,v1),(133,y),(134,.ptr v 2)]=nP at *
   simp only[cZ.oJ,t4.e0]
   have t5:=fun t=>t4.ai [(135,.ptr r 0),(136,t)] (by simp)
   exact u6 (row:=⟨k,cQ,[a,b],0,0,pl⟩) (a:=y) hL hM s6 Bh (fun t=>(t5 t).e0) (fun t=>(t5 t).e5) (fun t=>(t5 t).e6) hR
theorem MK{d:Int}(hL:oB L)(hM:∀id,SS r dt id->M id)(hp:p<=L.length){k:ByteArray}{pl:Int}(s:SI h0 h r tk L en dt aW v p rv d0 [] (ay (⟨k,cQ,[],0,0,pl⟩,aV)))(kI:TM tm r v d aW.length)
  (hR:Fin h0 r tk L en dt aW R (match gR L en p with |.error e=>.error e |.ok (a,p1)=>ja L en p1 ⟨k,cQ,[a],0,0,pl⟩)) :
  cZ.sr (fun id=>M id\/h0.next<=id) (Ab.cM Pg [] R) (Ab.bx R) ⟨tm,[]⟩ h:=by
 simp only[cZ.sr]
 refine⟨fun _=>v,by simp[s.vo],?_⟩
 simp only[kI.e5,kI.e0,aj,aF,s.vo,aA,zG]
 refine⟨by simp,(·=r),fun id hid _=>?_,pM rfl hL.len hp hL.Mj hL.J6 s.rs.r s.rs.t ?_⟩
 ·have:=s.vr
  exact hid ▸ ⟨.inl (hM r (.inl rfl)),by simp;exact fun e=>this e.symm⟩
 cases h1:gR L en p with
 |error e=>
  rw[h1]at hR
  intro h' f3
  exact⟨rfl,hR _ (s.fr.trans (f3.mono fun _ h=>.inl (.inl h)))⟩
 |ok x=>
  obtain⟨a,p1⟩:=x
  rw[h1]at hR
  simp only at hR
  intro h4 f4 r4
  have s4:=s.call f4 r4
  show dK (some (2,67,[.string ⟨#[]⟩,.int .i64 0])) 1 [(0,.agg a.enc)] h4 _
  refine BX (x:=a) (fun id hid=>Or.inr hid) s4 (.nil s4.rs.rows) .nil (fun _ _ _ he=>by cases he) (by simp) ?_
  intro v1 y h6 s6 Hv Bh Qd
  have t4:=kI.ai [(139,.ptr v 2),(140,aV),(141,.ptr r 0),(142,.agg a.enc),(143,v1),(144,y),(145,.ptr v 2)] (by simp)
  show cZ.ss _ _ _ ⟨ai tm [(139,.ptr v 2),(140,aV),(141,.ptr r 0),(142,.agg a.enc),(143,v1),(144,y),(145,.ptr v 2)],[]⟩ _
  generalize ai tm [(139,.ptr v 2),(140,aV),(141,.ptr r 0),(142,.agg a.enc),(143,v1),(144,y),(145,.ptr v 2)]=nP at *
  simp only[cZ.ss,t4.e0]
  have t5:=fun t=>t4.ai [(146,.ptr r 0),(147,t)] (by simp)
  exact u6 (row:=⟨k,cQ,[a],0,0,pl⟩) (a:=y) hL hM s6 Bh (fun t=>(t5 t).e0) (fun t=>(t5 t).e5) (fun t=>(t5 t).e6) hR
theorem S_{d:Int}{tc:Nat}{t:Tok}(hL:oB L)(hM:∀id,SS r dt id->M id)(hp:p<=L.length)(hlen:aW.length+1<=p)(VF:tc≠v)(e4:tm 4=.ptr tc 0)(hc:h.obj tc=some (ww t)){pl:Int}(s:SI h0 h r tk L en dt aW v p rv d0 [] (ay (⟨t.text,cQ,[],0,0,pl⟩,aV)))(kI:TM tm r v d aW.length)
  (hR:Fin h0 r tk L en dt aW R (match kU L en (L.length+1) p [] with |.error e=>.error e |.ok (l,p')=>ja L en p' ⟨bw,t.text,l,0,0,pl⟩)) :
  cZ.sk (fun id=>M id\/h0.next<=id) (Ab.cM Pg [] R) (Ab.bx R) ⟨tm,[]⟩ h:=by
 simp only[cZ.sk]
 refine⟨fun _=>tc,by simp[hc],?_⟩
 simp only[kI.e5,e4,aj,aF,hc,aA,zG,zB,zA,ab,az,s.vo,qY,cn]
 refine⟨by simp,⟨⟨.inr s.vn,by simp;exact fun e=>VF e.symm⟩,rfl,rfl,by simp[ay]⟩,?_⟩
 have s1:=s.set 0 [.sc (.string bw)]
 simp only[s1.vo,cn]
 refine⟨⟨.inr s.vn,rfl,rfl,by simp[ay]⟩,?_⟩
 have s2:=s1.set 1 [.sc (.string t.text)]
 have t1:=kI.ai [(55,.ptr tc 1),(56,.sc (.string t.text)),(57,.ptr v 0),(58,.ptr v 1)] (by simp)
 show cZ.so _ _ _ ⟨ai tm [(55,.ptr tc 1),(56,.sc (.string t.text)),(57,.ptr v 0),(58,.ptr v 1)],[]⟩ _
 generalize ai tm [(55,.ptr tc 1),(56,.sc (.string t.text)),(57,.ptr v 0),(58,.ptr v 1)]=pT at *
 generalize (h.put v 0 [.sc (.string bw)]).put v 1 [.sc (.string t.text)]=h1 at *
 unfold cZ.so
 generalize hX:kU L en (L.length+1) p []=X at hR
 have Bw:=hL.len
 refine pB (ι:=Nat×Nat×List Arg) (fun x s' h'=>s'.ds=[]/\TM s'.tm r v d aW.length/\x.2.1<=L.length/\L.length<x.2.1+x.1/\x.2.2.length<=x.2.1/\kU L en x.1 x.2.1 x.2.2=X /\
  ∃a,SI h0 h' r tk L en dt aW v x.2.1 rv d0 [] (ay (⟨bw,t.text,x.2.2,0,0,pl⟩,a))/\iP h' rv (aW++d0::[]) a/\bC Arg.enc 2 67 h' a x.2.2/\df (h0.next<=·) a) (fun x=>x.1) (L.length+1,p,[]) ?_ ?_
 ·exact⟨rfl,t1,hp,by simp only;omega,by simp,hX,aV,s2,.nil s2.rs.rows,.nil,fun _ _ _ he=>by cases he⟩
 rintro⟨n,q,acc⟩ ⟨eW,ds⟩ h2 ⟨rfl,t2,hq,Fv,sW,mW,a,s2,Kp,ln,Jg⟩
 simp only at t2 hq Fv sW mW s2 Kp ln
 rw[cZ.l2]
 cases n with
 |zero=>omega
 |succ n=>
  simp only[kU]at mW
  simp only[cZ.tB,t2.e0]
  refine⟨fun _=>False,fun _ h=>h.elim,zs s2.rs.r s2.rs.t ?_⟩
  have t3:=fun b=>t2.ai [(59,.ptr r 0),(60,.sc (.bool b))] (by simp)
  cases jQ:jm L q with
  |false=>
   simp only[jQ,zE,if_false]at mW
   rw[<-mW]at hR
   have Ge:ai eW [(59,.ptr r 0),(60,.sc (.bool false))] 60=.sc (.bool false):=by simp
   have t4:=t3 false
   show cZ.oI _ _ _ ⟨ai eW [(59,.ptr r 0),(60,.sc (.bool false))],[]⟩ h2
   generalize ai eW [(59,.ptr r 0),(60,.sc (.bool false))]=nP at *
   simp only[cZ.oI,Ge,ap,zE,zC,zH,zD,bL,eI,zV]
   simp only[cZ.ry,t4.e0]
   have t5:=fun t=>t4.ai [(68,.ptr r 0),(69,t)] (by simp)
   exact u6 (row:=⟨bw,t.text,acc,0,0,pl⟩) (a:=a) hL hM s2 ln (fun t=>(t5 t).e0) (fun t=>(t5 t).e5) (fun t=>(t5 t).e6) hR
  |true=>
   simp only[jQ,zV]at mW
   have Ge:ai eW [(59,.ptr r 0),(60,.sc (.bool true))] 60=.sc (.bool true):=by simp
   have t4:=t3 true
   show cZ.oI _ _ _ ⟨ai eW [(59,.ptr r 0),(60,.sc (.bool true))],[]⟩ h2
   generalize ai eW [(59,.ptr r 0),(60,.sc (.bool true))]=nP at *
   simp only[cZ.oI,Ge,ap,zF,zC,zI,zD]
   simp only[cZ.tC]
   refine⟨fun _=>v,by simp[s2.vo],?_⟩
   simp only[t4.e5,t4.e0,aj,aF,s2.vo,aA,zG]
   simp only[ay,zB,zA,ab]
   refine⟨by simp,(·=r),fun id hid _=>?_,pM rfl hL.len hq hL.Mj hL.J6 s2.rs.r s2.rs.t ?_⟩
   ·have:=s2.vr
    exact hid ▸ ⟨.inl (hM r (.inl rfl)),by simp;exact fun e=>this e.symm⟩
   cases hs:gR L en q with
   |error e=>
    rw[hs]at mW
    rw[<-mW]at hR
    intro h' f3
    exact⟨rfl,hR _ (s2.fr.trans (f3.mono fun _ h=>.inl (.inl h)))⟩
   |ok x=>
    obtain⟨x,q2⟩:=x
    rw[hs]at mW
    simp only at mW
    intro h3 f3 r3
    have s3:=s2.call f3 r3
    have TR:=Kp.call s2 f3
    have Du:=iD ln f3 s2.a_call
    have abG:=mr hs
    show dK (some (2,67,[.string ⟨#[]⟩,.int .i64 0])) 1 [(0,.agg x.enc)] h3 _
    refine BX (x:=x) (fun id hid=>Or.inr hid) s3 TR Du Jg (by omega) ?_
    intro v1 y h6 s6 Hv Bh Qd
    simp only[bL]
    exact⟨(n,q2,acc++[x]),by simp,trivial,t4.ai _ (by simp),by simp only;omega,by simp only;omega,by simp;omega,mW,y,s6,Hv,Bh,Qd⟩
end
end
section
open Go.Ab
structure TX (tm:Nat->AV) (r v:Nat) (d:Int) (n tc:Nat) (t:Tok):Prop where
 m:TM tm r v d n
 e4:tm 4=.ptr tc 0
 DN:tm 54=.sc (.string t.text)
theorem TX.two{tm:Nat->AV}{r v:Nat}{d:Int}{n tc:Nat}{t:Tok}(x:TX tm r v d n tc t){i j:Nat}(hi:54<i)(hj:54<j)(a b:AV):TX (ai tm [(i,a),(j,b)]) r v d n tc t/\ai tm [(i,a),(j,b)] j=b:=by
 refine⟨⟨x.m.ai _ (by simp;omega),?_,?_⟩,by simp only[ai];exact MZ _ _ _⟩
 ·simp only[ai];rw[lH (by omega),lH (by omega)];exact x.e4
 ·simp only[ai];rw[lH (by omega),lH (by omega)];exact x.DN
section
variable {h0 h:AH} {r tk:Nat} {L:List Tok} {en:Int} {dt:AV} {aW:List Row} {v p:Nat} {rv:AV} {d0:Row} {M:Nat->Prop} {R:AE->AH->Prop} {tm:Nat->AV}
theorem JS{d:Int}{kk tc:Nat}{t:Tok}(hL:oB L)(hb:qf L en kk)(hd:d=32-(kk:Int))(kz:kk<=32)(hp:p+1<=L.length)(hlen:aW.length<=p)(hM:∀id,SS r dt id->M id)(VF:tc≠v)(hc:h.obj tc=some (ww t))
  (s:SI h0 h r tk L en dt aW v (p+1) rv d0 [] (ay (⟨t.text,cQ,[],0,0,t.at_⟩,aV))) (x0:TX tm r v d aW.length tc t)
  (hR:Fin h0 r tk L en dt aW R (ka L en kk (jL L en kk) p t)) :
  cZ.yx (fun id=>M id\/h0.next<=id) (Ab.cM Pg [] R) (Ab.bx R) ⟨tm,[]⟩ h:=by
 unfold ka at hR
 have lQ:aW.length+1<=p+1:=by omega
 have ao:∀(tm:Nat->AV),TX tm r v d aW.length tc t->tm 70=.sc (.bool true)->(t.text=aS\/t.text=bz)->cZ.tA (fun id=>M id\/h0.next<=id) (Ab.cM Pg [] R) (Ab.bx R) ⟨tm,[]⟩ h:=by
  intro tm x e FA
  rw[zX FA]at hR
  simp only[cZ.tA,e,ap,zD,zF,zC,zI]
  exact Pj hL hM s x.m hR
 simp only[cZ.yx,x0.DN,cD]
 obtain⟨x1,e1⟩:=x0.two (i:=71) (j:=70) (by decide) (by decide) (.sc (.bool (decide (t.text=aS)))) (.sc (.bool (decide (t.text=aS))))
 generalize ai tm [(71,.sc (.bool (decide (t.text=aS)))),(70,.sc (.bool (decide (t.text=aS))))]=pT at *
 simp only[cZ.C8,e1,ap,x1.DN,cD]
 refine⟨fun h1=>ao pT x1 (by rw[e1,h1]) (.inl (of_decide_eq_true h1)),fun h1=>?_⟩
 obtain⟨x2,e2⟩:=x1.two (i:=72) (j:=70) (by decide) (by decide) (.sc (.bool (decide (t.text=bz)))) (.sc (.bool (decide (t.text=bz))))
 generalize ai pT [(72,.sc (.bool (decide (t.text=bz)))),(70,.sc (.bool (decide (t.text=bz))))]=eW at *
 by_cases h2:t.text=bz
 ·exact ao eW x2 (by rw[e2,zL h2]) (.inr h2)
 rw[zW (fun FA=>FA.elim (of_decide_eq_false h1) h2)]at hR
 clear ao
 rw[zK h2]at e2
 simp only[cZ.tA,e2,ap,zE,zC,zD,zH]
 simp only[cZ.yy,x2.DN,cD]
 obtain⟨x3,e3⟩:=x2.two (i:=82) (j:=81) (by decide) (by decide) (.sc (.bool (decide (t.text=aN)))) (.sc (.bool (decide (t.text=aN))))
 generalize ai eW [(82,.sc (.bool (decide (t.text=aN)))),(81,.sc (.bool (decide (t.text=aN))))]=nP at *
 simp only[cZ.C9,e3,ap]
 refine⟨fun h3=>?_,fun h3=>?_⟩
 ·rw[zX (of_decide_eq_true h3)]at hR
  exact Pn hL hb hd kz lQ hM s x3.m hR
 rw[zW (of_decide_eq_false h3)]at hR
 simp only[cZ.yz,x3.DN,cD]
 obtain⟨x4,e4⟩:=x3.two (i:=102) (j:=101) (by decide) (by decide) (.sc (.bool (decide (t.text=aG)))) (.sc (.bool (decide (t.text=aG))))
 generalize ai nP [(102,.sc (.bool (decide (t.text=aG)))),(101,.sc (.bool (decide (t.text=aG))))]=Tz at *
 simp only[cZ.wG,e4,ap]
 refine⟨fun h3=>?_,fun h4=>?_⟩
 ·rw[zX (of_decide_eq_true h3)]at hR
  exact Ta hL hb hd kz lQ hM s x4.m hR
 rw[zW (of_decide_eq_false h4)]at hR
 simp only[cZ.yD,x4.DN,cD]
 obtain⟨x5,e5⟩:=x4.two (i:=112) (j:=111) (by decide) (by decide) (.sc (.bool (decide (t.text=cz)))) (.sc (.bool (decide (t.text=cz))))
 generalize ai Tz [(112,.sc (.bool (decide (t.text=cz)))),(111,.sc (.bool (decide (t.text=cz))))]=tm5 at *
 simp only[cZ.yE,e5,ap]
 refine⟨fun h3=>?_,fun h5=>?_⟩
 ·rw[zX (of_decide_eq_true h3)]at hR
  exact W_ hL hb hd kz lQ hM s x5.m hR
 rw[zW (of_decide_eq_false h5)]at hR
 simp only[cZ.Be,x5.DN,cD]
 obtain⟨x6,e6⟩:=x5.two (i:=125) (j:=124) (by decide) (by decide) (.sc (.bool (decide (t.text=aQ)))) (.sc (.bool (decide (t.text=aQ))))
 generalize ai tm5 [(125,.sc (.bool (decide (t.text=aQ)))),(124,.sc (.bool (decide (t.text=aQ))))]=tm6 at *
 simp only[cZ.yF,e6,ap]
 refine⟨fun h3=>?_,fun h6=>?_⟩
 ·rw[zX (of_decide_eq_true h3)]at hR
  exact Pk hL hM hp s x6.m hR
 rw[zW (of_decide_eq_false h6)]at hR
 simp only[cZ.C_,x6.DN,cD]
 obtain⟨x7,e7⟩:=x6.two (i:=138) (j:=137) (by decide) (by decide) (.sc (.bool (decide (t.text=bB)))) (.sc (.bool (decide (t.text=bB))))
 generalize ai tm6 [(138,.sc (.bool (decide (t.text=bB)))),(137,.sc (.bool (decide (t.text=bB))))]=tm7 at *
 simp only[cZ.Bf,e7,ap]
 refine⟨fun h3=>?_,fun h7=>?_⟩
 ·rw[zX (of_decide_eq_true h3)]at hR
  exact MK hL hM hp s x7.m hR
 rw[zW (of_decide_eq_false h7)]at hR
 exact S_ hL hM hp lQ VF x7.e4 hc s x7.m hR
end
section
variable {h:AH} {r tk:Nat} {L:List Tok} {en:Int} {rv:AV} {rows:List Row} {p:Nat} {M:Nat->Prop} {R:AE->AH->Prop}
theorem Pm{d:Int}{kk tc:Nat}{t:Tok}{h1:AH}{tm:Nat->AV}(hL:oB L)(hb:qf L en kk)(hd:d=32-(kk:Int))(kz:kk<=32)(hp:p+1<=L.length)(hlen:rows.length<=p)(hM:∀id,SS r rv id->M id)
  (lh:r<h.next) (e0:tm 0=.ptr r 0) (e1:tm 1=.sc (.int .i64 d)) (e4:tm 4=.ptr tc 0) (hc:h1.obj tc=some (ww t)) (f1:Fr h h1 (·=r)) (rY:RS h1 r tk L en (p+1) rv rows)
  (aaR:∀id off n,rv=.sl id off n->id<h.next)
  (hR:Fin h r tk L en rv rows R (ka L en kk (jL L en kk) p t)) :
  cZ.qw (fun id=>M id\/h.next<=id) (Ab.cM Pg [] R) (Ab.bx R) ⟨tm,[]⟩ h1:=by
 have Bw:=hL.len
 simp only[cZ.qw,e4,aj,aF,hc,aA,zG,zB,zA,ab]
 refine⟨ay (⟨t.text,cQ,[],0,0,t.at_⟩,aV),rfl,?_⟩
 simp only[aH]
 refine⟨rfl,?_⟩
 have hv:=AH.cg h1 (aI ([.string ⟨#[]⟩,.string ⟨#[]⟩,.slice none 0 0,.int .i64 0,.int .i64 0,.int .i64 0].map AV.sc) 6 46)
 simp only[az,hv,ib,cn]
 refine⟨⟨.inr f1.next,rfl,rfl,by simp⟩,?_⟩
 have f2:=((Fr.refl (h:=h1) (S:=fun _=>False)).alloc (aI ([.string ⟨#[]⟩,.string ⟨#[]⟩,.slice none 0 0,.int .i64 0,.int .i64 0,.int .i64 0].map AV.sc) 6 46)).put (id:=h1.next) (off:=0) (cs:=ay (⟨t.text,cQ,[],0,0,t.at_⟩,aV)) (.inr (zU _))
 have Dg:=ki (off:=0) (cs:=ay (⟨t.text,cQ,[],0,0,t.at_⟩,aV)) hv
 have rA:h1.next<((h1.alloc (aI ([.string ⟨#[]⟩,.string ⟨#[]⟩,.slice none 0 0,.int .i64 0,.int .i64 0,.int .i64 0].map AV.sc) 6 46)).put h1.next 0 (ay (⟨t.text,cQ,[],0,0,t.at_⟩,aV))).next:=by simp[AH.rh,AH.bD]
 generalize (h1.alloc (aI ([.string ⟨#[]⟩,.string ⟨#[]⟩,.slice none 0 0,.int .i64 0,.int .i64 0,.int .i64 0].map AV.sc) 6 46)).put h1.next 0 (ay (⟨t.text,cQ,[],0,0,t.at_⟩,aV))=h2 at *
 have Dg:h2.obj h1.next=some (aI (ay (⟨t.text,cQ,[],0,0,t.at_⟩,aV)) 6 46):=Dg
 have jM:RS h2 r tk L en (p+1) rv rows:=rY.step (f2.mono fun _ h=>h.elim) (f2.obj rY.r fun h=>h)
 have vu:=f2.obj hc fun h=>h
 have QX:Fr h h2 (·=r):=f1.trans (f2.mono fun _ h=>h.elim)
 have htv:tc≠h1.next:=by have:=h1.lt _ _ hc;omega
 have vn:=f1.next
 generalize h1.next=v at *
 generalize ky:ai tm _=pT
 have g0:pT 0=.ptr r 0:=by rw[<-ky];simp[e0]
 have g1:pT 1=.sc (.int .i64 d):=by rw[<-ky];simp[e1]
 have g4:pT 4=.ptr tc 0:=by rw[<-ky];simp[e4]
 have g5:pT 5=.ptr v 0:=by rw[<-ky];simp
 clear ky
 simp only[cZ.P8,g0,aL,aj,aF,jM.r,aA,zG,zB,zA,ab,jM.rows.len.1,jM.rows.len.2,zH]
 generalize ky:ai pT _=eW
 have k0:eW 0=.ptr r 0:=by rw[<-ky];simp[g0]
 have k1:eW 1=.sc (.int .i64 d):=by rw[<-ky];simp[g1]
 have k4:eW 4=.ptr tc 0:=by rw[<-ky];simp[g4]
 have k5:eW 5=.ptr v 0:=by rw[<-ky];simp[g5]
 have k6:eW 6=.sc (.int .i64 rows.length):=by rw[<-ky];simp
 clear ky
 simp only[cZ.yw,k0,k5,aL,aj,aF,nX,jM.r,Dg,aA,mg,zG,zB,zA,ab]
 have QB:(ay (⟨t.text,cQ,[],0,0,t.at_⟩,aV)).length=6:=rfl
 refine⟨by rw[QB];exact zU _,?_⟩
 rw[show List.take 6 (List.drop 0 (ay (⟨t.text,cQ,[],0,0,t.at_⟩,aV)))=ay (⟨t.text,cQ,[],0,0,t.at_⟩,aV) from rfl]
 obtain⟨l,l1,l2,l3⟩:=jM.rows
 have Lz:l.length=rows.length:=by rw[<-l2];simp
 have HN:bC ay 6 46 h2 rv l:=l1
 refine Q7 (f:=ay) (t:=(⟨t.text,cQ,[],0,0,t.at_⟩,aV)) fX (by decide) rfl (by decide) rfl HN ?_ (by omega) ?_
 ·intro id off n he
  exact .inl (hM id (.inr ⟨n,by rw[he,((jM.yG he).1)]⟩))
 intro y h3 hy iy k3 n3
 have f3:Fr h2 h3 (fun i=>∃off n,rv=.sl i off n):=⟨n3,fun i hi hs=>k3 i hi fun off n he=>hs ⟨off,n,he⟩⟩
 have not:∀i o,h2.obj i=some o->o.ty≠46->¬ ∃off n,rv=.sl i off n:=by
  rintro i o ho b7 ⟨off,n,he⟩
  obtain⟨_,_,o',dy,ht⟩:=jM.rows.id he
  rw[ho]at dy;cases dy;exact b7 ht
 have r3:=f3.obj jM.r (not _ _ jM.r (show(89:Nat)≠46 by decide))
 simp only[k0,aL,aj,az,r3,zG]
 obtain⟨yid,UU⟩:=hy.sl (by simp)
 have ey:b_ y=some [y]:=by rw[UU];rfl
 simp only[ey,cn]
 refine⟨⟨.inl (hM r (.inl rfl)),by rw[UU];rfl,rfl,by simp⟩,?_⟩
 have gN:v<h2.next:=rA
 have s3:SI h (h3.put r 3 [y]) r tk L en rv rows v (p+1) y ⟨t.text,cQ,[],0,0,t.at_⟩ [] (ay (⟨t.text,cQ,[],0,0,t.at_⟩,aV)):=by
  have f4:Fr h3 (h3.put r 3 [y]) (·=r):=Fr.refl.put (.inl rfl)
  have vr:v≠r:=by omega
  have yr:∀id,y=.sl id 0 (l++[((⟨t.text,cQ,[],0,0,t.at_⟩:Row),aV)]).length->¬id=r:=fun id he hid=>by
   have:=iy id _ _ he
   omega
  refine⟨QX.mono (fun _ h=>.inl h) |>.trans (f3.mono fun id ⟨off,n,he⟩=>.inl (.inr ⟨n,by rw[he,(jM.yG he).1]⟩)) |>.trans (f4.mono fun _ h=>.inl (.inl h)),⟨?_,?_,l++[(⟨t.text,cQ,[],0,0,t.at_⟩,aV)],hy.bp f4 yr,by simp[l2],?_⟩,?_,?_,vn,lh⟩
  ·rw[ki r3];rfl
  ·exact f4.obj (f3.obj jM.t (not _ _ jM.t (show(117:Nat)≠46 by decide))) (bG jM.t jM.r (show(117:Nat)≠89 by decide))
  ·intro z hz
   rcases List.mem_append.1 hz with hz |hz
   ·rcases l3 z hz with h4 |⟨id,h4,ho⟩
    ·exact .inl h4
    ·exact .inr ⟨id,h4,f4.obj (f3.obj ho (not _ _ ho (show(67:Nat)≠46 by decide))) (bG ho jM.r (show(67:Nat)≠89 by decide))⟩
   ·simp only[List.mem_singleton]at hz
    subst hz
    exact .nil
  ·intro id off n he
   have:=iy id off n he
   omega
  ·refine f4.obj (f3.obj Dg ?_) vr
   rintro⟨off,n,he⟩
   have:=aaR v off n he
   omega
 have ZE:(h3.put r 3 [y]).obj tc=some (ww t):=by
  rw[AH.iM (bG vu jM.r (show(117:Nat)≠89 by decide))]
  exact f3.obj vu (not _ _ vu (show(117:Nat)≠46 by decide))
 generalize h3.put r 3 [y]=h4 at *
 generalize ky:ai eW _=nP
 have j0:nP 0=.ptr r 0:=by rw[<-ky];simp[k0]
 have j1:nP 1=.sc (.int .i64 d):=by rw[<-ky];simp[k1]
 have j4:nP 4=.ptr tc 0:=by rw[<-ky];simp[k4]
 have j5:nP 5=.ptr v 0:=by rw[<-ky];simp[k5]
 have j6:nP 6=.sc (.int .i64 rows.length):=by rw[<-ky];simp[k6]
 clear ky
 simp only[cZ.Bc,j4,aj,aF,ZE,aA,zG,zB,zA,ab]
 refine JS hL hb hd kz hp hlen hM htv ZE s3 ⟨⟨?_,?_,?_,?_⟩,?_,?_⟩ hR<;>simp[j0,j1,j4,j5,j6]
end
end
section
open Go.Ab
section
variable {L:List Tok} {en:Int}
theorem Ho{kk:Nat}(hL:oB L)(kz:kk<=32)(hb:qf L en kk):GN L en kk:=by
 intro h r tk rv rows M R p d hd hM da hp Ze hR
 have lh:=h.lt _ _ da.r
 have wI:=h.lt _ _ da.t
 have HW:=hM r (.inl rfl)
 have Bw:=hL.len
 rw[tY]at hR
 apply cZ.calls
 have hr:=da.r
 have ht:=da.t
 have tail:∀(t:Tok)(tm:Nat->AV)(tc:Nat)(h1:AH),eQ L en p (eX L p)=.ok t->tm 0=.ptr r 0->tm 1=.sc (.int .i64 d)->tm 4=.ptr tc 0->h1.obj tc=some (ww t)->h.next<=tc->Fr h h1 (·=r)->h1.obj r=some (lN tk L.length (p+1:Nat) en rv)->cZ.qw (fun id=>M id\/h.next<=id) (Ab.cM Pg [] R) (Ab.bx R) ⟨tm,[]⟩ h1:=by
  intro t tm tc h1 hx e0 e1 e4 hc VG hf Di
  rw[hx]at hR
  have:=(pf hx).1
  exact Pm hL hb hd kz (by omega) Ze hM lh e0 e1 e4 hc hf (da.step hf Di) (fun id off n he=>(da.yG he).2.2) hR
 have he:∀e,eQ L en p (eX L p)=.error e->∀h',Fr h h' (·=r)->R (.b6 (dw e)) h':=by
  intro e hx h' hf;rw[hx]at hR;exact hR _ (hf.mono fun _ h=>.inl h)
 have A1:∀(fT:AV->AV->Nat->AV),(∀a b,fT a b 0=.ptr r 0/\fT a b 1=.sc (.int .i64 d)/\fT a b 4=b)->aC Pg (fun id=>M id\/h.next<=id) 59 [.ptr r 0,.sc (.bool (eX L p))] h (fun t44 Dz=>bn (some [.int .i64 0,.string ⟨#[]⟩,.int .i64 0]) 3 117 Dz fun t46 vD=>
   aE (some 3) t46 t44 vD (fun id=>M id\/h.next<=id) fun vC=>cZ.qw (fun id=>M id\/h.next<=id) (Ab.cM Pg [] R) (Ab.bx R) ⟨fT t44 t46,[]⟩ vC) (Ab.bx R []):=by
  intro fT ky
  refine⟨(·=r),fun _ h _=>h ▸ .inl HW,qU rfl Bw hr ht ?_⟩
  cases hx:eQ L en p (eX L p) with
  |error e=>intro h' h1;exact⟨rfl,he e hx h' h1⟩
  |ok t=>
   intro h' h1 h2
   have h3:=h1.next
   have h4:=h'.lt _ _ h2
   simp[-cZ.qw,Tok.enc,AH.bJ,h3]
   obtain⟨m0,m1,m4⟩:=ky (.agg [.sc (.int .i64 t.kind),.sc (.string t.text),.sc (.int .i64 t.at_)]) (.ptr h'.next 0)
   refine tail t _ h'.next _ hx m0 m1 m4 (by simp[AH.bK,AH.bJ]) h3 ((h1.alloc _).put (.inr h3)) (by simp[AH.bK,AH.bJ,nA h4,h2])
 have A2:∀(fT:AV->AV->Nat->AV),(∀a b,fT a b 0=.ptr r 0/\fT a b 1=.sc (.int .i64 d)/\fT a b 4=b)->bn (some [.int .i64 0,.string ⟨#[]⟩,.int .i64 0]) 3 117 h fun t49 vA=>aC Pg (fun id=>M id\/h.next<=id) 59 [.ptr r 0,.sc (.bool (eX L p))] vA (fun t51 yM=>
   aE (some 3) t49 t51 yM (fun id=>M id\/h.next<=id) fun vz=>cZ.qw (fun id=>M id\/h.next<=id) (Ab.cM Pg [] R) (Ab.bx R) ⟨fT t51 t49,[]⟩ vz) (Ab.bx R []):=by
  intro fT ky
  simp only[aH]
  refine⟨rfl,(·=r),fun _ h _=>h ▸ .inl HW,qU rfl Bw (p:=p) (L:=L) (tk:=tk) (en:=en) (rv:=rv) (by rw[AH.alloc_old lh];exact hr) (by rw[AH.alloc_old wI];exact ht) ?_⟩
  have hf:=(Fr.refl (h:=h) (S:=(·=r))).alloc (aI ([.int .i64 0,.string ⟨#[]⟩,.int .i64 0].map .sc) 3 117)
  cases hx:eQ L en p (eX L p) with
  |error e=>intro h' h1;exact⟨rfl,he e hx h' (hf.trans (h1.mono fun _ h=>.inl h))⟩
  |ok t=>
   intro h' h1 h2
   have h3:=h1.obj (AH.cg _ _) (nA lh).2.1
   have h4:=h1.next
   simp only[AH.bD]at h4
   simp[-cZ.qw,Tok.enc,h3]
   obtain⟨m0,m1,m4⟩:=ky (.agg [.sc (.int .i64 t.kind),.sc (.string t.text),.sc (.int .i64 t.at_)]) (.ptr h.next 0)
   refine tail t _ h.next _ hx m0 m1 m4 (by simp[AH.bK,h3]) (zU _) ((hf.trans (h1.mono fun _ h=>.inl h)).put (.inr (zU _))) (by simp[AH.bK,nA lh,h2])
 by_cases aJ:p<L.length
 ·by_cases hk:L[p].kind=1
  ·have hw:eX L p=true:=by simp[eX,aJ,hk]
   simp only[hw]at A1 A2
   simp[-cZ.qw,-aH,-az,hr,ht,aJ,jg Tok.b8,fS Tok.b8,Tok.enc,hk]
   exact⟨A1 _ (fun _ _=>by simp),A2 _ (fun _ _=>by simp)⟩
  ·have hw:eX L p=false:=by simp[eX,aJ,hk]
   have Qv:(L[p].kind==1)=false:=by simpa using hk
   simp only[hw]at A1 A2
   simp[-cZ.qw,-aH,-az,hr,ht,aJ,jg Tok.b8,fS Tok.b8,Tok.enc,Qv]
   exact⟨A1 _ (fun _ _=>by simp),A2 _ (fun _ _=>by simp)⟩
 ·have hw:eX L p=false:=by simp[eX,aJ]
  simp only[hw]at A1 A2
  simp[-cZ.qw,-aH,-az,hr,aJ]
  exact⟨A1 _ (fun _ _=>by simp),A2 _ (fun _ _=>by simp)⟩
theorem Rr(hL:oB L):∀kk,kk<=32->GN L en kk:=by
 intro kk
 induction kk with
 |zero=>intro hk;exact Ho hL hk (If hL fun k' he=>by omega)
 |succ kk ih=>intro hk;exact Ho hL hk (If hL fun k' he=>by cases he;exact ih (by omega))
end
end
section
open Go.Ab
theorem Nk(p:Int->Bool)(s:ByteArray):∀(n i:Nat),s.size-i=n->∀j,i<=j->j<eN p s i->p (dn s j)=true:=by
 intro n
 induction n with
 |zero=>intro i h j h1 h2;rw[eN,dif_neg (by omega)]at h2;omega
 |succ n ih=>
  intro i h j h1 h2
  have hi:i<s.size:=by omega
  rw[eN,dif_pos hi]at h2
  split at h2
  ·rename_i hp
   by_cases e:i=j
   ·subst e;simpa[dn,hi] using hp
   ·exact ih (i+1) (by omega) j (by omega) h2
  ·omega
theorem G9{s:ByteArray}{a b:Nat}{c:UInt8}(h:c∈(s.extract a b).data.toList):∃j,a<=j/\j<b/\j<s.size/\dn s j=c.toNat:=by
 rw[ByteArray.data_extract,Array.toList_extract,List.extract_eq_take_drop]at h
 obtain⟨k,hk,rfl⟩:=List.mem_iff_getElem.1 h
 simp only[yA,List.length_drop,Array.length_toList]at hk
 refine⟨a+k,by omega,by omega,by have:s.data.size=s.size:=rfl;omega,?_⟩
 have hs:a+k<s.size:=by have:s.data.size=s.size:=rfl;omega
 simp[dn,hs]
 rfl
theorem extract_size(s:ByteArray)(a b:Nat):(s.extract a b).size<=s.size:=by rw[ByteArray.size_extract];omega
def En(s:ByteArray)(t:Tok):Prop:=t.text.size<=s.size/\(t.kind=2->∀c∈t.text.data.toList,48<=c.toNat/\c.toNat<=57)
theorem NL{s:ByteArray}{i j:Nat}{t:Tok}(h:jb s i (dn s i)=.tok t j):En s t:=by
 unfold jb at h
 split at h
 ·cases h
 split at h
 ·cases h
 split at h
 ·cases h;exact⟨extract_size _ _ _,fun h=>by cases h⟩
 split at h
 ·split at h
  ·cases h
  ·cases h
   refine⟨extract_size _ _ _,fun _ c hc=>?_⟩
   obtain⟨k,h1,h2,h3,h4⟩:=G9 hc
   have:=Nk isDigit s _ i rfl k h1 h2
   rw[h4]at this
   simp[isDigit]at this
   omega
 split at h
 ·cases h;exact⟨extract_size _ _ _,fun h=>by cases h⟩
 ·cases h
theorem Nj{s:ByteArray}:∀(n i:Nat)(acc l:List Tok),s.size-i=n->fB s i acc=.ok l->acc.length<=i->i<=s.size->(∀t∈acc,En s t)->l.length<=s.size/\∀t∈l,En s t:=by
 intro n
 induction n using Nat.strongRecOn with
 |_ n ih=>
  intro i acc l hn h ha hi cA
  rw[fB]at h
  split at h
  ·rename_i aJ
   split at h
   ·split at h
    ·rename_i j _ hj
     by_cases HQ:j<=s.size
     ·exact ih (s.size-j) (by omega) j acc l rfl h (by omega) HQ cA
     ·rw[fB,dif_neg (by omega)]at h;cases h;exact⟨by omega,cA⟩
    ·cases h
   ·rename_i t j hl
    have Vg:∀t'∈acc++[t],En s t':=by
     intro t' Bl
     rcases List.mem_append.1 Bl with Bl |Bl
     ·exact cA t' Bl
     ·simp only[List.mem_singleton]at Bl;subst Bl;exact NL hl
    split at h
    ·rename_i hj
     by_cases HQ:j<=s.size
     ·exact ih (s.size-j) (by omega) j _ l rfl h (by simp;omega) HQ Vg
     ·rw[fB,dif_neg (by omega)]at h;cases h;exact⟨by simp;omega,Vg⟩
    ·cases h
   ·cases h
  ·cases h;exact⟨by omega,cA⟩
theorem EJ{s:ByteArray}{l:List Tok}(hs:s.size<=65536)(h:fB s 0 []=.ok l):oB l:=by
 obtain⟨h1,h2⟩:=Nj _ 0 [] l rfl h (by simp) (by omega) (by simp)
 exact⟨by omega,fun t ht=>(h2 t ht).2,fun t ht=>zR (h2 t ht).1 hs⟩
def kj(s:ByteArray):iF (List Row):=
 if 65536<s.size then .error (0,1)
 else match fB s 0 [] with
 |.error p=>.error (p,90)
 |.ok L=>ng L s.size (L.length+1) 0 []
end
section
open Go.Ab
theorem UR:hZ Pg 20=some true:=by kernel_rfl
theorem Po:bd.code=.seq (Code.at bd.code [0]) (Code.at bd.code [1]):=by kernel_rfl
theorem Yt:Code.at bd.code [0]=.region 0 (wc (Code.at bd.code [0])) false:=by kernel_rfl
theorem Yu:∃o0 o1,wc (Code.at bd.code [0])=#[o0,o1]/\o0.op=.call { callee:=.builtin .recover,args:=#[],argTypes:=#[] }/\o0.dst=some 6/\o0.guard=none/\o1.op=.assign (.tmp 6)/\o1.dst=some 3/\o1.guard=none:=by
 refine⟨_,_,rfl,rfl,rfl,rfl,rfl,rfl,rfl⟩
theorem JT{args:Array Value}{u u':FrameMode}{w:World}{R:Ending->FrameMode->World->Prop}(v:Value)
  (Ag:∀(c₀:Frame)(cs:List Frame),c₀.mode=u->(recoverD (c₀::cs)=none/\v=.nilIface/\u'=u)\/recoverD (c₀::cs)=some (v,{ c₀ with mode:=u' }::cs))
  (h:(Code.at bd.code [1]).wp Pg (fun e a w=>(e=.normal\/e=.ret)/\a.defers=[]/\R (.returned (.tuple #[])) u' w) (Act.put (Act.put { tmps:=args++Array.replicate (21-args.size) undef,defers:=[] } (some 6) v) (some 3) v) w) :
  CallsD Pg 34 args u w R:=by
 refine callsD_of_wpS (c:=bd.code) Tryz.func34 rfl ?_
 intro c₀ cs hu
 rw[Po]
 refine wpS_seq ?_
 rw[Yt]
 refine wpS_region ?_
 obtain⟨o0,o1,e1,a1,a2,a3,b1,b2,b3⟩:=Yu
 rw[e1]
 have fin:∀xg:List Frame,xg={ c₀ with mode:=u' }::cs->(Code.at bd.code [1]).wpS Pg (bodyPostS Pg Tryz.f34 c₀ cs R) (Act.put (Act.put { tmps:=args++Array.replicate (Tryz.f34.ntmps-args.size) undef,defers:=[] } (some 6) v) (some 3) v) xg w:=by
  intro xg yK
  refine wpS_of_wp (wp_mono h ?_)
  rintro e a w' ⟨he,hd,hR⟩
  have rC:(results Tryz.f34 a.tmps).run Pg w'=.ok (.tuple #[]) w':=by
   have:Tryz.f34.results=#[]:=rfl
   simp[results,this]
  rcases he with rfl |rfl
  ·exact⟨hd,u',yK,_,rC,hR⟩
  ·exact⟨hd,u',yK,_,rC,hR⟩
 have w0:∀y,Region.wanted o0 y=true:=fun y=>by unfold Region.wanted;rw[a3]
 have w1:∀y,Region.wanted o1 y=true:=fun y=>by unfold Region.wanted;rw[b3]
 have x0:∀(ev:Operand->Value)(w':World),(execOp ev o0).run Pg w'=.ok .recover w':=fun ev w'=>by
  obtain⟨d,op,t,p,af,gd⟩:=o0
  simp only at a1;subst a1
  simp[execOp,resolve,invoke,builtin]
 have x1:∀(ev:Operand->Value)(w':World),(execOp ev o1).run Pg w'=.ok (.value (ev (.tmp 6))) w':=fun ev w'=>by
  obtain⟨d,op,t,p,af,gd⟩:=o1
  simp only at b1;subst b1
  simp[execOp]
 have gO:6<(args++Array.replicate (Tryz.f34.ntmps-args.size) undef).size:=by
  have:Tryz.f34.ntmps=21:=rfl
  simp;omega
 have step:∀xg:List Frame,xg={ c₀ with mode:=u' }::cs->wpOpsS Pg #[o0,o1] (Exit.thenS ((Code.at bd.code [1]).wpS Pg (bodyPostS Pg Tryz.f34 c₀ cs R)) (bodyPostS Pg Tryz.f34 c₀ cs R)) [1] (Act.put { tmps:=args++Array.replicate (Tryz.f34.ntmps-args.size) undef,defers:=[] } (some 6) v) xg w:=by
  intro xg yK
  simp only[wpOpsS,List.getElem?_toArray,zB,zA,w1,zV,x1,Oper.upon_value,b2]
  have e6:(Act.put { tmps:=args++Array.replicate (Tryz.f34.ntmps-args.size) undef,defers:=[] } (some 6) v).eval (.tmp 6)=v:=by
   show((args++Array.replicate (Tryz.f34.ntmps-args.size) undef).setIfInBounds 6 v).getD 6 undef=v
   rw[Array.getD_eq_getD_getElem?,Array.getElem?_setIfInBounds_self_of_lt gO];rfl
  rw[e6]
  exact fin xg yK
 show wpOpsS Pg #[o0,o1] _ [0,1] _ _ _
 rw[wpOpsS]
 simp only[List.getElem?_toArray,zA,w0,zV,x0,a2]
 rcases Ag c₀ cs hu with⟨h1,rfl,rfl⟩ |h1
 ·rw[h1]
  exact step _ (by subst hu;rfl)
 ·rw[h1]
  exact step _ rfl
section
variable {h:AH} {M:Nat->Prop} {rc ac ec:Nat}
theorem Iw{E:Env}{w:World}{dR:List Value}{u u':FrameMode}{v:Value}{av:AV}{R:AH->Prop}(hr:Rel E h w)(ha:cu E [.ptr rc 0,.ptr ac 0,.ptr ec 0] dR)(hv:VR E av v)
  (Ag:∀(c₀:Frame)(cs:List Frame),c₀.mode=u->(recoverD (c₀::cs)=none/\v=.nilIface/\u'=u)\/recoverD (c₀::cs)=some (v,{ c₀ with mode:=u' }::cs))
  (hp:bd.k6 (fun id=>M id\/h.next<=id) (fun x s h'=>(x=.normal\/x=.ret)/\s.ds=[]/\R h') D7 ⟨eP (eP (s0 [.ptr rc 0,.ptr ac 0,.ptr ec 0]).tm 6 av) 3 av,[]⟩ h) :
  CallsD Pg 34 dR.toArray u w fun e u2 w'=>(∃r,e=.returned r)/\u2=u'/\∃E' h',Step E h M w E' h' w'/\R h':=by
 refine JT v Ag ?_
 have ar:AR E 21 ⟨eP (eP (s0 [.ptr rc 0,.ptr ac 0,.ptr ec 0]).tm 6 av) 3 av,[]⟩ (Act.put (Act.put { tmps:=dR.toArray++Array.replicate (21-dR.toArray.size) undef,defers:=[] } (some 6) v) (some 3) v):=
  ((IM ha (n:=21) (by simp)).put (some 6) hv).put (some 3) hv
 refine wp_mono (pL (W:=fun id=>M id\/h.next<=id) (pl:=bd.pl) Tryz.mixed (Code.at bd.code [1]) (fun x s h'=>(x=.normal\/x=.ret)/\s.ds=[]/\R h') D7 _ h bd.ok ?_ E w _ hr ar) ?_
 ·exact Eq.mpr (bd.I4 _ _ _ _ _) hp
 rintro e a' w' (⟨x,E',h',s',a1,a2,a3,a4,a5,a6⟩ |⟨_,_,_,_,_,_,_,_,_,a5⟩)
 ·have hd:a'.defers=[]:=by
   have:=a3.ds
   rw[a5]at this
   generalize a'.defers=l at this
   cases this;rfl
  refine⟨?_,hd,⟨_,rfl⟩,rfl,E',h',?_,a6⟩
  ·rcases a4 with rfl |rfl
   ·cases e<;>first |exact .inl rfl |exact a1.elim
   ·cases e<;>first |exact .inr rfl |exact a1.elim
  ·exact(Step.refl hr).trans hr a2 (fun id aJ hm=>by
    rcases hm with hm |hm
    ·exact .inl hm
    ·exact .inr hm)
 ·exact a5.elim
theorem Tb{R:AH->Prop}(hR:R h):Rl Pg 34 [.ptr rc 0,.ptr ac 0,.ptr ec 0] h M R:=by
 intro E w dR hr ha
 refine Iw (v:=.nilIface) (av:=.sc .nilIface) hr ha (.sc _) (fun c₀ cs hu=>.inl ⟨by simp[recoverD,hu],rfl,rfl⟩) ?_
 have e3:(Go.Ab.eP (Go.Ab.eP (s0 [.ptr rc 0,.ptr ac 0,.ptr ec 0]).tm 6 (.sc .nilIface)) 3 (.sc .nilIface)) 3=.sc .nilIface:=by simp
 simp only[bd.k6,bd.t6,e3]
 refine⟨rfl,UR,?_⟩
 simp only[bd.k5,bd.t5]
 have e8:∀tm:Nat->AV,ai tm [(7,.sc .nilIface),(8,.sc (.bool false))] 8=.sc (.bool false):=fun tm=>by simp
 rw[e8]
 simp only[ap,zE,zC,zH,zD]
 exact⟨.inl trivial,hR⟩
theorem Tc{R:AH->Prop}{e:Int×Int}{x y z:AV}(hM:M rc/\M ac/\M ec)(h1:h.obj rc=some (aI [x] 1 43))(h2:h.obj ac=some (aI [y] 1 3))(h3:h.obj ec=some (aI [z] 1 28))
  (hR:∀h',h'.obj rc=some (aI [aV] 1 43)->h'.obj ac=some (aI [.sc (.int .i64 e.1)] 1 3)->h'.obj ec=some (aI [.sc (.int .i64 e.2)] 1 28)->Fr h h' (fun id=>id=rc\/id=ac\/id=ec)->R h'):Rm Pg 34 [.ptr rc 0,.ptr ac 0,.ptr ec 0] (dw e) h M R:=by
 intro E w dR u hr ha hv
 have n1:=h.lt _ _ h1
 have n2:=h.lt _ _ h2
 have n3:=h.lt _ _ h3
 have d12:=bG h1 h2 (show(43:Nat)≠3 by decide)
 have d13:=bG h1 h3 (show(43:Nat)≠28 by decide)
 have d23:=bG h2 h3 (show(3:Nat)≠28 by decide)
 refine Iw (v:=u) (av:=dw e) (u':=.panicking [{ v:=u,recovered:=true }]) hr ha hv (fun c₀ cs hu=>.inr (by simp[recoverD,hu])) ?_
 have e0:(Go.Ab.eP (Go.Ab.eP (s0 [.ptr rc 0,.ptr ac 0,.ptr ec 0]).tm 6 (dw e)) 3 (dw e)) 0=.ptr rc 0:=by simp
 have e1:(Go.Ab.eP (Go.Ab.eP (s0 [.ptr rc 0,.ptr ac 0,.ptr ec 0]).tm 6 (dw e)) 3 (dw e)) 1=.ptr ac 0:=by simp
 have e2:(Go.Ab.eP (Go.Ab.eP (s0 [.ptr rc 0,.ptr ac 0,.ptr ec 0]).tm 6 (dw e)) 3 (dw e)) 2=.ptr ec 0:=by simp
 have e3:(Go.Ab.eP (Go.Ab.eP (s0 [.ptr rc 0,.ptr ac 0,.ptr ec 0]).tm 6 (dw e)) 3 (dw e)) 3=dw e:=by simp
 generalize Go.Ab.eP (Go.Ab.eP (s0 [.ptr rc 0,.ptr ac 0,.ptr ec 0]).tm 6 (dw e)) 3 (dw e)=EF at *
 simp only[bd.k6,bd.t6,e3]
 refine⟨UR,?_⟩
 show bd.k5 _ _ _ ⟨ai EF [(7,dw e),(8,.sc (.bool true))],[]⟩ h
 have g0:ai EF [(7,dw e),(8,.sc (.bool true))] 0=.ptr rc 0:=by simp[e0]
 have g1:ai EF [(7,dw e),(8,.sc (.bool true))] 1=.ptr ac 0:=by simp[e1]
 have g2:ai EF [(7,dw e),(8,.sc (.bool true))] 2=.ptr ec 0:=by simp[e2]
 have g3:ai EF [(7,dw e),(8,.sc (.bool true))] 3=dw e:=by simp[e3]
 have g8:ai EF [(7,dw e),(8,.sc (.bool true))] 8=.sc (.bool true):=by simp
 generalize ai EF [(7,dw e),(8,.sc (.bool true))]=pT at *
 simp only[bd.k5,bd.t5,g8,ap,zF,zC,zD,zI]
 simp only[bd.k4,bd.t4,g3]
 simp[-bd.k1,dw,AH.bJ]
 have f4:=((Fr.refl (h:=h) (S:=fun _=>False)).alloc (aI [.sc (.int .i64 0),.sc (.int .i64 0)] 2 85)).put (id:=h.next) (off:=0) (cs:=[.sc (.int .i64 e.1),.sc (.int .i64 e.2)]) (.inr (zU _))
 have o4:((h.alloc (aI [.sc (.int .i64 0),.sc (.int .i64 0)] 2 85)).put h.next 0 [.sc (.int .i64 e.1),.sc (.int .i64 e.2)]).obj h.next=some (aI [.sc (.int .i64 e.1),.sc (.int .i64 e.2)] 2 85):=by simp[AH.bK,AH.bJ]
 have p1:=f4.obj h1 fun h=>h
 have p2:=f4.obj h2 fun h=>h
 have p3:=f4.obj h3 fun h=>h
 generalize (h.alloc (aI [.sc (.int .i64 0),.sc (.int .i64 0)] 2 85)).put h.next 0 [.sc (.int .i64 e.1),.sc (.int .i64 e.2)]=h4 at *
 simp only[bd.k1,bd.t1]
 refine⟨fun _=>h.next,by simp[o4],?_⟩
 have q1:rc≠h.next:=by omega
 have q2:ac≠h.next:=by omega
 simp[g0,g1,g2,o4,p1,p2,p3,AH.bK,hM.1,hM.2.1,hM.2.2,q1,q2,d12,d13,d23,Ne.symm d12,Ne.symm d13,Ne.symm d23]
 refine⟨⟨.inl hM.1,fun i _=>q1⟩,⟨.inl hM.2.1,fun i _=>q2⟩,?_⟩
 refine hR _ ?_ ?_ ?_ ?_
 ·simp[AH.bK,p1,d12,d13]
 ·simp[AH.bK,p2,d23,Ne.symm d12]
 ·simp[AH.bK,p3,Ne.symm d13,Ne.symm d23]
 ·exact(((f4.mono fun _ h=>h.elim).put (.inl (.inl rfl))).put (.inl (.inr (.inl rfl)))).put (.inl (.inr (.inr rfl)))
end
end
section
open Go.Ab
section
variable (W:Nat->Prop) (Q:ck) (QP:bU) (s:St) (h:AH)
theorem Xh(C:KT):aw Pg 36 W aq.pl (Code.at aq.code [1,1,0]) (bL C Q) QP s h=aq.t11 s h (fun s h=>aq.t10 s h C (fun s h=>aq.t9 W s h C (fun s h=>aq.t8 Q s h C))) C:=by
 have o5:∀s h,aw Pg 36 W aq.pl (Code.at aq.code [1,1,0,1,0]) (bL C Q) QP s h=aq.t9 W s h C (fun s h=>aq.t8 Q s h C):=fun s h=>
  gX (a:=(Code.at aq.code [1,1,0,1,0,0])) (b:=(Code.at aq.code [1,1,0,1,0,1])) (by kernel_rfl) (fun s h=>aq.UB W Q QP s h C) (aq.UA W Q QP s h C _)
 have eF:∀s h,aw Pg 36 W aq.pl (Code.at aq.code [1,1,0,1]) (bL C Q) QP s h=aq.t10 s h C (fun s h=>aq.t9 W s h C (fun s h=>aq.t8 Q s h C)):=fun s h=>
  qV (o:=.tmp 14) (a:=(Code.at aq.code [1,1,0,1,0])) (b:=(Code.at aq.code [1,1,0,1,1])) (by kernel_rfl) (o5 s h) rfl (aq.Qb W Q QP s h C (fun s h=>aq.t9 W s h C (fun s h=>aq.t8 Q s h C)))
 exact gX (a:=(Code.at aq.code [1,1,0,0])) (b:=(Code.at aq.code [1,1,0,1])) (by kernel_rfl) eF (aq.Qa W Q QP s h _ C)
theorem MT(C:KT):aw Pg 36 W aq.pl (Code.at aq.code [1,1,1,1,1,0,0,0,0]) (bL C Q) QP s h=aq.t4 s h C (fun s h=>aq.t3 Q s h C):=
 gX (a:=(Code.at aq.code [1,1,1,1,1,0,0,0,0,0])) (b:=(Code.at aq.code [1,1,1,1,1,0,0,0,0,1])) (by kernel_rfl)
  (fun s h=>qV (o:=.tmp 29) (a:=(Code.at aq.code [1,1,1,1,1,0,0,0,0,1,0])) (b:=(Code.at aq.code [1,1,1,1,1,0,0,0,0,1,1])) (by kernel_rfl) rfl rfl (aq.I_ W Q QP s h C)) (aq.I8 W Q QP s h C _)
theorem Xg(K:KT)(KP:St->AV->AH->Prop):H7 Pg 36 W (wc (Code.at aq.code [1,1,1,1,1,0,0,0,1,0])) (List.range (wc (Code.at aq.code [1,1,1,1,1,0,0,0,1,0])).size) K KP s h =
  (aC Pg W 35 [(s.tm 6),(.sc (.int .i64 0))] h (fun t8 h9=>K ⟨ai s.tm [(30,(s.tm 6)),(31,t8)],s.ds⟩ h9) (KP ⟨ai s.tm [(30,(s.tm 6))],s.ds⟩)):=by kernel_rfl
theorem Xf:aq.code=.seq (Code.at aq.code [0]) (Code.at aq.code [1]):=by kernel_rfl
theorem Xe:Code.at aq.code [1]=.seq (Code.at aq.code [1,0]) (Code.at aq.code [1,1]):=by kernel_rfl
theorem Xd:Code.at aq.code [1,1]=.seq (Code.at aq.code [1,1,0]) (Code.at aq.code [1,1,1]):=by kernel_rfl
theorem Xc:Code.at aq.code [1,1,1]=.seq (Code.at aq.code [1,1,1,0]) (Code.at aq.code [1,1,1,1]):=by kernel_rfl
theorem Xb:Code.at aq.code [1,1,1,1]=.seq (Code.at aq.code [1,1,1,1,0]) (Code.at aq.code [1,1,1,1,1]):=by kernel_rfl
theorem MS:Code.at aq.code [1,1,1,1,1]=.seq (Code.at aq.code [1,1,1,1,1,0]) (Code.at aq.code [1,1,1,1,1,1]):=by kernel_rfl
theorem MQ:Code.at aq.code [1,1,1,1,1,0]=.block 0 (Code.at aq.code [1,1,1,1,1,0,0]):=by kernel_rfl
theorem MP:Code.at aq.code [1,1,1,1,1,0,0]=.loop aq.c1:=by kernel_rfl
theorem MO:aq.c1=.seq (Code.at aq.code [1,1,1,1,1,0,0,0,0]) (Code.at aq.code [1,1,1,1,1,0,0,0,1]):=by kernel_rfl
theorem Xa:Code.at aq.code [1,1,1,1,1,0,0,0,1]=.block 1 (Code.at aq.code [1,1,1,1,1,0,0,0,1,0]):=by kernel_rfl
theorem Ti:Code.at aq.code [1,1,1,1,1,0,0,0,1,0]=.region 7 (wc (Code.at aq.code [1,1,1,1,1,0,0,0,1,0])) false:=by kernel_rfl
end
end
section
open Go.Ab
def GP(s:ByteArray)(h:AH)(R:AE->AH->Prop):Prop:=
 rQ (kj s) (fun rows=>∀x h',eS h' x rows->df (h.next<=·) x->Fr h h' (fun _=>False)->R (.ret (.cP [x,.sc (.int .i64 0),.sc (.int .i64 0)])) h')
  (fun e=>∀h',Fr h h' (fun _=>False)->R (.ret (.cP [aV,.sc (.int .i64 e.1),.sc (.int .i64 e.2)])) h')
abbrev o1(x:AV)(ty:TypeId):AO:=aI [x] 1 ty
structure RC (h:AH) (rc ac ec:Nat) (x y z:AV):Prop where
 r:h.obj rc=some (o1 x 43)
 a:h.obj ac=some (o1 y 3)
 e:h.obj ec=some (o1 z 28)
theorem RC.ne{h:AH}{rc ac ec:Nat}{x y z:AV}(c:RC h rc ac ec x y z):rc≠ac/\rc≠ec/\ac≠ec:=
 ⟨bG c.r c.a (show(43:Nat)≠3 by decide),bG c.r c.e (show(43:Nat)≠28 by decide),bG c.a c.e (show(3:Nat)≠28 by decide)⟩
theorem RC.res{h:AH}{rc ac ec:Nat}{x y z:AV}(c:RC h rc ac ec x y z){s:St}(e2:s.tm 2=.ptr rc 0)(e3:s.tm 3=.ptr ac 0)(e4:s.tm 4=.ptr ec 0){K:List AV->Prop}(hK:K [x,y,z]):lf Pg Tryz.f19.results.toList s h K:=by
 have:Tryz.f19.results.toList=[.cell 2 43,.cell 3 3,.cell 4 28]:=rfl
 rw[this]
 have a1:ke Pg 43=some false:=by kernel_rfl
 have a2:ke Pg 3=some false:=by kernel_rfl
 have a3:ke Pg 28=some false:=by kernel_rfl
 simp[lf,e2,e3,e4,a1,a2,a3,c.r,c.a,c.e]
 exact hK
theorem RC.fr{h h':AH}{rc ac ec:Nat}{x y z:AV}(c:RC h rc ac ec x y z){S:Nat->Prop}(hf:Fr h h' S)(h1:¬S rc)(h2:¬S ac)(h3:¬S ec):RC h' rc ac ec x y z:=⟨hf.obj c.r h1,hf.obj c.a h2,hf.obj c.e h3⟩
section
variable {h:AH} {M:Nat->Prop} {R:AE->AH->Prop} {E:Env} {w:World}
theorem vZ{hr:Rel E h w}{E':Env}{h':AH}{w':World}(hs:Step E h (fun id=>M id\/h.next<=id) w E' h' w'):Step E h M w E' h' w':=(Step.refl hr).trans hr hs fun _ _ hm=>hm
theorem Tg(hr:Rel E h w){s:St}{h':AH}{rc ac ec:Nat}{x y z:AV}(oO:s.ds=[⟨.func 34,[.ptr rc 0,.ptr ac 0,.ptr ec 0],[]⟩])(e2:s.tm 2=.ptr rc 0)(e3:s.tm 3=.ptr ac 0)(e4:s.tm 4=.ptr ec 0)(c:RC h' rc ac ec x y z)
  (hR:R (.ret (.cP [x,y,z])) h'):J8 36 (fun id=>M id\/h.next<=id) E h w (bodyPostD Pg Tryz.f19 (pD E h M w R)) .ret s h':=by
 intro e E' w' a hx hs ha
 cases e<;>first |exact hx.elim |skip
 exact K7 (M':=fun _=>False) hr (vZ (hr:=hr) hs) ha oO rfl (fun _ _ h=>h.elim) (Tb (R:=fun h2=>lf Pg Tryz.f19.results.toList s h2 fun vs=>R (.ret (i_ vs)) h2) (c.res e2 e3 e4 hR))
theorem Pu(hr:Rel E h w){s:St}{h':AH}{rc ac ec:Nat}{x y z:AV}(oO:s.ds=[])(e2:s.tm 2=.ptr rc 0)(e3:s.tm 3=.ptr ac 0)(e4:s.tm 4=.ptr ec 0)(c:RC h' rc ac ec x y z)
  (hR:R (.ret (.cP [x,y,z])) h'):J8 36 (fun id=>M id\/h.next<=id) E h w (bodyPostD Pg Tryz.f19 (pD E h M w R)) .ret s h':=by
 intro e E' w' a hx hs ha
 cases e<;>first |exact hx.elim |skip
 have hd:a.defers=[]:=by
  have:=ha.ds
  rw[oO]at this
  generalize a.defers=l at this
  cases this;rfl
 show Leaves Pg Tryz.f19 a.tmps _ a.defers _ _
 rw[hd]
 exact wD (vZ (hr:=hr) hs) ha (c.res e2 e3 e4 hR)
theorem Th(hr:Rel E h w){s:St}{h':AH}{rc ac ec:Nat}{x y z:AV}{f:Int×Int}(oO:s.ds=[⟨.func 34,[.ptr rc 0,.ptr ac 0,.ptr ec 0],[]⟩])(e2:s.tm 2=.ptr rc 0)(e3:s.tm 3=.ptr ac 0)(e4:s.tm 4=.ptr ec 0)(c:RC h' rc ac ec x y z)
  (n1:h.next<=rc) (n2:h.next<=ac) (n3:h.next<=ec) (hf:Fr h h' (fun _=>False)) (hR:∀h2,Fr h h2 (fun _=>False)->R (.ret (.cP [aV,.sc (.int .i64 f.1),.sc (.int .i64 f.2)])) h2)
  {E':Env} {w':World} {a:Act} {u:Value} (hs:Step E h (fun id=>M id\/h.next<=id) w E' h' w') (ha:AR E' 36 s a) (hu:VR E' (dw f) u) :
  bodyPostD Pg Tryz.f19 (pD E h M w R) (.panic [{ v:=u,recovered:=false }]) a w':=by
 refine K9 (M':=fun id=>id=rc\/id=ac\/id=ec) hr (vZ (hr:=hr) hs) ha oO rfl hu (fun id _ hm=>.inr ?_) (Tc ⟨.inl rfl,.inr (.inl rfl),.inr (.inr rfl)⟩ c.r c.a c.e ?_)
 ·rcases hm with hm |hm |hm<;>omega
 ·intro h2 a1 a2 a3 f2
  refine RC.res ⟨a1,a2,a3⟩ e2 e3 e4 (hR h2 (hf.trans (f2.mono fun id hid=>.inr ?_)))
  rcases hid with hm |hm |hm<;>omega
end
end
section
open Go.Ab
theorem eS.cell{h:AH}{x:AV}{rows:List Row}(hr:eS h x rows):b_ x=some [x]/\cF x=true:=by
 obtain⟨l,h1,_,_⟩:=hr
 rcases h1 with⟨rfl,_⟩ |⟨id,rfl,_⟩<;>exact⟨rfl,rfl⟩
abbrev D8(rc ac ec:Nat):List eT:=[⟨.func 34,[.ptr rc 0,.ptr ac 0,.ptr ec 0],[]⟩]
structure T8 (s:St) (rc ac ec r:Nat) (tk:AV):Prop where
 ds:s.ds=D8 rc ac ec
 e2:s.tm 2=.ptr rc 0
 e3:s.tm 3=.ptr ac 0
 e4:s.tm 4=.ptr ec 0
 e5:s.tm 5=tk
 e6:s.tm 6=.ptr r 0
theorem T8.ai{s:St}{rc ac ec r:Nat}{tk:AV}(t:T8 s rc ac ec r tk)(l:List (Nat×AV))(hl:∀x∈l,6<x.1):T8 ⟨ai s.tm l,s.ds⟩ rc ac ec r tk:=by
 have key:∀(l:List (Nat×AV))(tm:Nat->AV)(i:Nat),i<=6->(∀x∈l,6<x.1)->Go.Ab.ai tm l i=tm i:=by
  intro l
  induction l with
  |nil=>intro tm i _ _;rfl
  |cons x l ih=>
   intro tm i hi hl
   have hx:=hl x (by simp)
   show Go.Ab.ai (Go.Ab.eP tm x.1 x.2) l i=tm i
   rw[ih _ i hi (fun y hy=>hl y (by simp[hy])),lH (by omega)]
 exact⟨t.ds,(key l _ _ (by omega) hl).trans t.e2,(key l _ _ (by omega) hl).trans t.e3,(key l _ _ (by omega) hl).trans t.e4,(key l _ _ (by omega) hl).trans t.e5,(key l _ _ (by omega) hl).trans t.e6⟩
section
variable {h:AH} {M:Nat->Prop} {R:AE->AH->Prop} {E:Env} {w:World}
theorem IA(hr:Rel E h w){s:St}{h':AH}{rc ac ec r:Nat}{tk x y z rv c0 c1 c2:AV}{rows:List Row}(t:T8 s rc ac ec r tk)(c:RC h' rc ac ec x y z)(n1:h.next<=rc)(n2:h.next<=ac)(n3:h.next<=ec)(fc:h'.obj r=some (aI [c0,c1,c2,rv] 4 89))(Ec:eS h' rv rows)(hf:Fr h h' (fun _=>False))
  (hR:∀h2,eS h2 rv rows->Fr h h2 (fun _=>False)->R (.ret (.cP [rv,.sc (.int .i64 0),.sc (.int .i64 0)])) h2) :
  TC Pg 36 (fun id=>M id\/h.next<=id) E h w (Code.at aq.code [1,1,1,1,1,1]) (bodyPostD Pg Tryz.f19 (pD E h M w R)) s h':=by
 refine Q9 Tryz.mixed hr (pl:=aq.pl) (by kernel_rfl) ?_
 rw[aq.D_]
 obtain⟨d12,d13,d23⟩:=c.ne
 simp only[aq.k1,aq.t1,t.e6,t.e2,t.e3,t.e4,aL,aj,aF,fc,aA,zG,zB,zA,ab,az,c.r,Ec.cell.1,cn]
 refine⟨⟨.inr n1,by rw[List.all_cons,Ec.cell.2];rfl,rfl,by simp⟩,?_⟩
 have ca:=c.a
 have ce:=c.e
 have cr:=c.r
 simp only[AH.bK,d12,d13,d23,Ne.symm d12,Ne.symm d13,Ne.symm d23,if_false,ca,ce,eY,cn]
 refine⟨⟨.inr n2,rfl,rfl,by simp⟩,⟨.inr n3,rfl,rfl,by simp⟩,?_⟩
 have f3:Fr h' (((h'.put rc 0 [rv]).put ac 0 [.sc (.int .i64 0)]).put ec 0 [.sc (.int .i64 0)]) (fun id=>id=rc\/id=ac\/id=ec):=((Fr.refl.put (.inl (.inl rfl))).put (.inl (.inr (.inl rfl)))).put (.inl (.inr (.inr rfl)))
 have rw3:eS (((h'.put rc 0 [rv]).put ac 0 [.sc (.int .i64 0)]).put ec 0 [.sc (.int .i64 0)]) rv rows:=by
  refine Ec.fr f3 (fun id he hid=>?_) (fun id o ho ht hid=>?_)
  ·obtain⟨_,_,o,ho,ht⟩:=Ec.id he
   rcases hid with h1 |h1 |h1
   ·exact bG ho cr (by rw[ht];show(46:Nat)≠43;decide) h1
   ·exact bG ho ca (by rw[ht];show(46:Nat)≠3;decide) h1
   ·exact bG ho ce (by rw[ht];show(46:Nat)≠28;decide) h1
  ·rcases hid with h1 |h1 |h1
   ·exact bG ho cr (by rw[ht];show(67:Nat)≠43;decide) h1
   ·exact bG ho ca (by rw[ht];show(67:Nat)≠3;decide) h1
   ·exact bG ho ce (by rw[ht];show(67:Nat)≠28;decide) h1
 have t3:=t.ai [(32,.ptr r 0),(33,.ptr r 0),(34,.ptr r 3),(35,rv)] (by simp)
 refine Tg (x:=rv) (y:=.sc (.int .i64 0)) (z:=.sc (.int .i64 0)) hr t3.ds t3.e2 t3.e3 t3.e4 ⟨?_,?_,?_⟩ (hR _ rw3 (hf.trans (f3.mono fun id hid=>.inr ?_)))
 ·simp[AH.bK,cr,d12,d13]
 ·simp[AH.bK,ca,d23,Ne.symm d12]
 ·simp[AH.bK,ce,Ne.symm d13,Ne.symm d23]
 ·rcases hid with h1 |h1 |h1<;>omega
theorem Pv{L:List Tok}{en:Int}(hr:Rel E h w)(hL:oB L){s:St}{h1:AH}{rc ac ec r tk:Nat}(t:T8 s rc ac ec r (.sl tk 0 L.length))(c:RC h1 rc ac ec aV (.sc (.int .i64 0)) (.sc (.int .i64 0)))(n1:h.next<=rc)(n2:h.next<=ac)(n3:h.next<=ec)(n4:h.next<=r)
  (rs:RS h1 r tk L en 0 aV []) (hf:Fr h h1 (fun _=>False))
  (hR:rQ (ng L en (L.length+1) 0 []) (fun rows=>∀x h',eS h' x rows->df (h.next<=·) x->Fr h h' (fun _=>False)->R (.ret (.cP [x,.sc (.int .i64 0),.sc (.int .i64 0)])) h')
  (fun e=>∀h',Fr h h' (fun _=>False)->R (.ret (.cP [aV,.sc (.int .i64 e.1),.sc (.int .i64 e.2)])) h')) :
  TC Pg 36 (fun id=>M id\/h.next<=id) E h w (Code.at aq.code [1,1,1,1,1]) (bodyPostD Pg Tryz.f19 (pD E h M w R)) s h1:=by
 rw[MS]
 refine GM ?_
 refine Au MQ ?_
 generalize hX:ng L en (L.length+1) 0 []=X at hR
 have Bw:=hL.len
 refine Iq (ι:=Nat×Nat×List Row×AV) MP (fun x s' h'=>T8 s' rc ac ec r (.sl tk 0 L.length)/\RC h' rc ac ec aV (.sc (.int .i64 0)) (.sc (.int .i64 0))/\RS h' r tk L en x.2.1 x.2.2.2 x.2.2.1/\Fr h h' (fun _=>False)/\df (h.next<=·) x.2.2.2 /\
  x.2.1<=L.length/\L.length<x.2.1+x.1/\x.2.2.1.length<=x.2.1/\ng L en x.1 x.2.1 x.2.2.1=X) (fun x=>x.1) (L.length+1,0,[],aV) ?_ ?_
 ·exact⟨t,c,rs,hf,(fun _ _ _ he=>by cases he),Nat.zero_le _,by simp,by simp,hX⟩
 rintro⟨n,p,acc,rv⟩ s' h' ⟨t',c',oG,lm,vm,hp,hpn,sW,Bv⟩
 simp only at oG vm hp hpn sW Bv
 cases n with
 |zero=>omega
 |succ n=>
  simp only[ng]at Bv
  refine pC Tryz.mixed hr (pl:=aq.pl) MO (by kernel_rfl) ?_
  rw[MT]
  have hl:bO (.sl tk 0 L.length)=fun K=>K (.sc (.int .i64 L.length)):=rfl
  simp only[aq.t4,t'.e6,t'.e5,aL,aj,aF,oG.r,aA,zG,zB,zA,ab,CM,zH,Hw,bu]
  by_cases aJ:p<L.length
  ·rw[zX aJ]at Bv
   have hd:decide ((p:Int)<(L.length:Nat))=true:=by simpa using aJ
   rw[hd]
   have t2:=t'.ai [(23,.ptr r 0),(24,.ptr r 0),(25,.ptr r 1),(26,.sc (.int .i64 p)),(27,.sl tk 0 L.length),(28,.sc (.int .i64 L.length)),(29,.sc (.bool true))] (by simp)
   have Mg:Go.Ab.ai s'.tm [(23,.ptr r 0),(24,.ptr r 0),(25,.ptr r 1),(26,.sc (.int .i64 p)),(27,.sl tk 0 L.length),(28,.sc (.int .i64 L.length)),(29,.sc (.bool true))] 29=.sc (.bool true):=by simp
   generalize Go.Ab.ai s'.tm [(23,.ptr r 0),(24,.ptr r 0),(25,.ptr r 1),(26,.sc (.int .i64 p)),(27,.sl tk 0 L.length),(28,.sc (.int .i64 L.length)),(29,.sc (.bool true))]=eW at *
   simp only[aq.t3,Mg,ap,zF,zC,zD,zI]
   refine Au Xa ?_
   refine MF hr Ti (K:=fun s2 h2=>T8 s2 rc ac ec r (.sl tk 0 L.length)/\RC h2 rc ac ec aV (.sc (.int .i64 0)) (.sc (.int .i64 0))/\∃p2 new AS,gz L en 32 p=.ok (p2,new)/\RS h2 r tk L en p2 AS (acc++new)/\Fr h h2 (fun _=>False)/\df (h.next<=·) AS)
    (KP:=fun s2 v h2=>T8 s2 rc ac ec r (.sl tk 0 L.length)/\RC h2 rc ac ec aV (.sc (.int .i64 0)) (.sc (.int .i64 0))/\Fr h h2 (fun _=>False)/\∃e,gz L en 32 p=.error e/\v=dw e) ?_ ?_ ?_
   ·rintro s2 h2 E2 w2 a2 ⟨t3,c3,p2,new,AS,g1,g2,g3,g4⟩ mT ln
    obtain⟨b1,b2,b3⟩:=zk 32 p p2 new g1
    rw[g1]at Bv
    exact⟨(n,p2,acc++new,AS),s2,h2,E2,by simp,⟨t3,c3,g2,g3,g4,b2,by simp only;omega,by simp;omega,Bv⟩,mT,ln⟩
   ·rintro s2 v h2 E2 w2 a2 u ⟨t3,c3,f3,e,g1,rfl⟩ mT ln hu
    rw[g1]at Bv
    rw[<-Bv]at hR
    exact Th hr t3.ds t3.e2 t3.e3 t3.e4 c3 n1 n2 n3 f3 hR mT ln hu
   ·rw[Xg]
    rw[t2.e6]
    have not:∀i o,h'.obj i=some o->o.ty≠89->o.ty≠46->¬SS r rv i:=by
     rintro i o ho HY yP (rfl |⟨m,he⟩)
     ·exact bG ho oG.r HY rfl
     ·obtain⟨_,_,o',dy,ht⟩:=oG.rows.id he
      rw[ho]at dy;cases dy;exact yP ht
    refine⟨SS r rv,fun id hid _=>.inr ?_,Rr (en:=en) hL 32 (by omega) (rv:=rv) (rows:=acc) (p:=p) (by omega) (fun _ h=>h) oG hp sW ?_⟩
    ·rcases hid with hid |⟨m,hid⟩
     ·omega
     ·exact vm id 0 m hid
    ·have ZS:∀h2,Fr h' h2 (SS r rv)->Fr h h2 (fun _=>False):=fun h2 f2=>lm.trans (f2.mono fun id hid=>.inr (by
      rcases hid with hid |⟨m,hid⟩
      ·omega
      ·exact vm id 0 m hid))
     have YG:∀h2,Fr h' h2 (SS r rv)->RC h2 rc ac ec aV (.sc (.int .i64 0)) (.sc (.int .i64 0)):=fun h2 f2=>c'.fr f2 (not _ _ c'.r (by show(43:Nat)≠89;decide) (by show(43:Nat)≠46;decide)) (not _ _ c'.a (by show(3:Nat)≠89;decide) (by show(3:Nat)≠46;decide)) (not _ _ c'.e (by show(28:Nat)≠89;decide) (by show(28:Nat)≠46;decide))
     cases eA:gz L en 32 p with
     |error e=>
      intro h2 f2
      exact⟨t2.ai [(30,.ptr r 0)] (by simp),YG h2 f2,ZS h2 f2,e,rfl,rfl⟩
     |ok x=>
      obtain⟨p2,new⟩:=x
      intro h2 AS jM f2 i2
      refine⟨t2.ai [(30,.ptr r 0),(31,_)] (by simp),YG h2 f2,p2,new,AS,rfl,jM,ZS h2 f2,fun id off m he=>?_⟩
      have h0:=(jM.yG he).1
      rcases i2 id off m he with(hid |⟨m2,hid⟩) |hid
      ·omega
      ·exact vm id 0 m2 hid
      ·exact zR lm.next hid
  ·rw[zW aJ]at Bv
   have hd:decide ((p:Int)<(L.length:Nat))=false:=by simpa using aJ
   rw[hd]
   rw[<-Bv]at hR
   have t2:=t'.ai [(23,.ptr r 0),(24,.ptr r 0),(25,.ptr r 1),(26,.sc (.int .i64 p)),(27,.sl tk 0 L.length),(28,.sc (.int .i64 L.length)),(29,.sc (.bool false))] (by simp)
   have Mg:Go.Ab.ai s'.tm [(23,.ptr r 0),(24,.ptr r 0),(25,.ptr r 1),(26,.sc (.int .i64 p)),(27,.sl tk 0 L.length),(28,.sc (.int .i64 L.length)),(29,.sc (.bool false))] 29=.sc (.bool false):=by simp
   generalize Go.Ab.ai s'.tm [(23,.ptr r 0),(24,.ptr r 0),(25,.ptr r 1),(26,.sc (.int .i64 p)),(27,.sl tk 0 L.length),(28,.sc (.int .i64 L.length)),(29,.sc (.bool false))]=eW at *
   simp only[aq.t3,Mg,ap,zE,zC,zD,zH]
   intro e2 E2 w2 a2 hx mT ln
   cases e2<;>first |exact hx.elim |skip
   cases hx
   exact IA (M:=M) hr t2 c' n1 n2 n3 oG.r oG.rows lm (fun h2 r2 f2=>hR rv h2 r2 vm f2) E2 w2 a2 mT ln
end
end
section
open Go.Ab
section
variable {h:AH} {M:Nat->Prop} {R:AE->AH->Prop} {E:Env} {w:World}
theorem MN{en:Int}(hr:Rel E h w){s:St}{h1:AH}{rc ac ec r:Nat}(t:T8 s rc ac ec r aV)(c:RC h1 rc ac ec aV (.sc (.int .i64 0)) (.sc (.int .i64 0)))(n1:h.next<=rc)(n2:h.next<=ac)(n3:h.next<=ec)
  (fc:h1.obj r=some (aI [aV,.sc (.int .i64 0),.sc (.int .i64 en),aV] 4 89)) (hf:Fr h h1 (fun _=>False))
  (hR:∀x h',eS h' x []->df (h.next<=·) x->Fr h h' (fun _=>False)->R (.ret (.cP [x,.sc (.int .i64 0),.sc (.int .i64 0)])) h') :
  TC Pg 36 (fun id=>M id\/h.next<=id) E h w (Code.at aq.code [1,1,1,1,1]) (bodyPostD Pg Tryz.f19 (pD E h M w R)) s h1:=by
 rw[MS]
 refine GM ?_
 refine Au MQ ?_
 refine Iq (ι:=Unit) MP (fun x s' h'=>s'=s/\h'=h1) (fun _=>0) () ⟨rfl,rfl⟩ ?_
 rintro _ s' h' ⟨e1,e2⟩
 rw[e1,e2]
 clear e1 e2
 refine pC Tryz.mixed hr (pl:=aq.pl) MO (by kernel_rfl) ?_
 rw[MT]
 simp only[aq.t4,t.e6,t.e5,aL,aj,aF,fc,aA,zG,zB,zA,ab,AM,zH,EV,bu]
 have hd:decide ((0:Int)<((0:Nat):Int))=false:=by decide
 rw[hd]
 have t2:=t.ai [(23,.ptr r 0),(24,.ptr r 0),(25,.ptr r 1),(26,.sc (.int .i64 0)),(27,aV),(28,.sc (.int .i64 (0:Nat))),(29,.sc (.bool false))] (by simp)
 have Mg:Go.Ab.ai s.tm [(23,.ptr r 0),(24,.ptr r 0),(25,.ptr r 1),(26,.sc (.int .i64 0)),(27,aV),(28,.sc (.int .i64 (0:Nat))),(29,.sc (.bool false))] 29=.sc (.bool false):=by simp
 generalize Go.Ab.ai s.tm [(23,.ptr r 0),(24,.ptr r 0),(25,.ptr r 1),(26,.sc (.int .i64 0)),(27,aV),(28,.sc (.int .i64 (0:Nat))),(29,.sc (.bool false))]=eW at *
 simp only[aq.t3,Mg,ap,zE,zC,zD,zH]
 intro e2 E2 w2 a2 hx mT ln
 cases e2<;>first |exact hx.elim |skip
 cases hx
 exact IA (M:=M) hr t2 c n1 n2 n3 fc eS.nil hf (fun h2 r2 f2=>hR aV h2 r2 (fun _ _ _ he=>by cases he) f2) E2 w2 a2 mT ln
end
section
variable (h:AH) (M:Nat->Prop) (R:AE->AH->Prop) (E:Env) (w:World)
def K8:KT:=TC Pg 36 (fun id=>M id\/h.next<=id) E h w (Code.at aq.code [1,1,1]) (bodyPostD Pg Tryz.f19 (pD E h M w R))
def Y8:KT:=fun s h3=>aq.t9 (fun id=>M id\/h.next<=id) s h3 (K8 h M R E w) (fun s h3=>aq.t8 (J8 36 (fun id=>M id\/h.next<=id) E h w (bodyPostD Pg Tryz.f19 (pD E h M w R))) s h3 (K8 h M R E w))
def X8:KT:=fun s h3=>aq.t11 s h3 (fun s h3=>aq.t10 s h3 (K8 h M R E w) (Y8 h M R E w)) (K8 h M R E w)
end
structure S8 (tm:Nat->AV) (s:ByteArray) (rc ac ec:Nat):Prop where
 e0:tm 0=.sc (.string s)
 e2:tm 2=.ptr rc 0
 e3:tm 3=.ptr ac 0
 e4:tm 4=.ptr ec 0
theorem tw{i:Nat}:∀(l:List (Nat×AV))(tm:Nat->AV),(∀x∈l,x.1≠i)->ai tm l i=tm i
 |[],_,_=>rfl
 |x::l,tm,hl=>by
  have hx:=hl x (by simp)
  show ai (eP tm x.1 x.2) l i=tm i
  rw[tw l _ (fun y hy=>hl y (by simp[hy])),lH (fun e=>hx e.symm)]
theorem S8.ai{tm:Nat->AV}{s:ByteArray}{rc ac ec:Nat}(t:S8 tm s rc ac ec)(l:List (Nat×AV))(hl:∀x∈l,4<x.1):S8 (ai tm l) s rc ac ec:=
 ⟨(tw l tm fun x hx=>by have:=hl x hx;omega).trans t.e0,(tw l tm fun x hx=>by have:=hl x hx;omega).trans t.e2,(tw l tm fun x hx=>by have:=hl x hx;omega).trans t.e3,(tw l tm fun x hx=>by have:=hl x hx;omega).trans t.e4⟩
section
variable {h:AH} {M:Nat->Prop} {R:AE->AH->Prop} {E:Env} {w:World} {s:ByteArray} {rc ac ec:Nat}
theorem GV(hr:Rel E h w){tm:Nat->AV}{h1 h2:AH}{x:AV}{a e:Int}(t:S8 tm s rc ac ec)(n1:h.next<=rc)(n2:h.next<=ac)(n3:h.next<=ec)(f0:Fr h h1 (fun _=>False))(c0:RC h1 rc ac ec aV (.sc (.int .i64 0)) (.sc (.int .i64 0)))(f2:Fr h1 h2 (fun _=>False))
  (hk:∀eW h3,S8 eW s rc ac ec->eW 5=x->RC h3 rc ac ec aV (.sc (.int .i64 a)) (.sc (.int .i64 e))->Fr h h3 (fun _=>False)->(∀id o,h2.obj id=some o->o.ty≠3->o.ty≠28->h3.obj id=some o)->X8 h M R E w ⟨eW,[]⟩ h3) :
  cf (.cP [x,.sc (.int .i64 a),.sc (.int .i64 e)]) 0 fun t33=>cf (.cP [x,.sc (.int .i64 a),.sc (.int .i64 e)]) 1 fun t34=>cf (.cP [x,.sc (.int .i64 a),.sc (.int .i64 e)]) 2 fun t35=>
    aE (some 1) (.ptr ac 0) t34 h2 (fun id=>M id\/h.next<=id) fun yP=>aE (some 1) (.ptr ec 0) t35 yP (fun id=>M id\/h.next<=id) fun vF=>
    TC Pg 36 (fun id=>M id\/h.next<=id) E h w (Code.at aq.code [1,1]) (bodyPostD Pg Tryz.f19 (pD E h M w R)) ⟨ai tm [(8,.sc (.string s)),(9,.cP [x,.sc (.int .i64 a),.sc (.int .i64 e)]),(7,.cP [x,.sc (.int .i64 a),.sc (.int .i64 e)]),(10,t33),(11,t34),(12,t35),(5,t33)],[]⟩ vF:=by
 have c2:=c0.fr f2 (fun h=>h) (fun h=>h) (fun h=>h)
 obtain⟨d12,d13,d23⟩:=c0.ne
 have f5:=c2.e
 simp only[c9,zA,zB,ab,az,c2.a,eY,cn,AH.bK,Ne.symm d23,if_false,f5]
 refine⟨⟨.inr n2,rfl,rfl,by simp⟩,⟨.inr n3,rfl,rfl,by simp⟩,?_⟩
 have t2:=t.ai [(8,.sc (.string s)),(9,.cP [x,.sc (.int .i64 a),.sc (.int .i64 e)]),(7,.cP [x,.sc (.int .i64 a),.sc (.int .i64 e)]),(10,x),(11,.sc (.int .i64 a)),(12,.sc (.int .i64 e)),(5,x)] (by simp)
 have t25:Go.Ab.ai tm [(8,.sc (.string s)),(9,.cP [x,.sc (.int .i64 a),.sc (.int .i64 e)]),(7,.cP [x,.sc (.int .i64 a),.sc (.int .i64 e)]),(10,x),(11,.sc (.int .i64 a)),(12,.sc (.int .i64 e)),(5,x)] 5=x:=by simp
 have cc:RC ((h2.put ac 0 [.sc (.int .i64 a)]).put ec 0 [.sc (.int .i64 e)]) rc ac ec aV (.sc (.int .i64 a)) (.sc (.int .i64 e)):=
  ⟨by simp[AH.bK,c2.r,d12,d13],by simp[AH.bK,c2.a,d23],by simp[AH.bK,c2.e,Ne.symm d23]⟩
 have ff:Fr h ((h2.put ac 0 [.sc (.int .i64 a)]).put ec 0 [.sc (.int .i64 e)]) (fun _=>False):=((f0.trans (f2.mono fun _ h=>h.elim)).put (.inr n2)).put (.inr n3)
 have dr:∀id o,h2.obj id=some o->o.ty≠3->o.ty≠28->((h2.put ac 0 [.sc (.int .i64 a)]).put ec 0 [.sc (.int .i64 e)]).obj id=some o:=fun id o ho h3 nH=>by
  rw[AH.iM (bG ho c2.e nH),AH.iM (bG ho c2.a h3)]
  exact ho
 have:=hk _ _ t2 t25 cc ff dr
 generalize Go.Ab.ai tm [(8,.sc (.string s)),(9,.cP [x,.sc (.int .i64 a),.sc (.int .i64 e)]),(7,.cP [x,.sc (.int .i64 a),.sc (.int .i64 e)]),(10,x),(11,.sc (.int .i64 a)),(12,.sc (.int .i64 e)),(5,x)]=nP at *
 refine pC Tryz.mixed hr (pl:=aq.pl) Xd (by kernel_rfl) ?_
 rw[Xh]
 exact this
theorem GW(hr:Rel E h w){a e:Int}(b7:e≠0)(hR2:∀h',Fr h h' (fun _=>False)->R (.ret (.cP [aV,.sc (.int .i64 a),.sc (.int .i64 e)])) h'){eW:Nat->AV}{h3:AH}(t:S8 eW s rc ac ec)(n1:h.next<=rc)(n2:h.next<=ac)(n3:h.next<=ec)
  (c3:RC h3 rc ac ec aV (.sc (.int .i64 a)) (.sc (.int .i64 e))) (f3:Fr h h3 (fun _=>False)):X8 h M R E w ⟨eW,[]⟩ h3:=by
 obtain⟨d12,d13,d23⟩:=c3.ne
 have Cj:(e != 0)=true:=by simpa using b7
 unfold X8
 simp only[aq.t11,t.e4,aF,c3.e,aA,zA,ab,cy,Cj]
 have nD:ai eW [(13,.sc (.int .i64 e)),(14,.sc (.bool true))] 14=.sc (.bool true):=by simp
 have t2:=t.ai [(13,.sc (.int .i64 e)),(14,.sc (.bool true))] (by simp)
 generalize Go.Ab.ai eW [(13,.sc (.int .i64 e)),(14,.sc (.bool true))]=nP at *
 simp only[aq.t10,nD,ap,zF,zC,zI,zD]
 unfold Y8
 simp only[aq.t9]
 refine⟨fun i=>if i=0 then ac else ec,by simp[c3.a,c3.e],?_⟩
 have ca:=c3.a
 have ce:=c3.e
 simp only[t2.e2,t2.e3,t2.e4,aF,ca,ce,c3.r,aA,zA,ab,az,eY,Im,cn,AH.bK,d12,d13,d23,Ne.symm d12,Ne.symm d13,Ne.symm d23,if_false]
 refine⟨rfl,rfl,⟨⟨.inr n1,?_⟩,rfl,rfl,by simp⟩,⟨⟨.inr n2,?_⟩,rfl,rfl,by simp⟩,⟨.inr n3,rfl,rfl,by simp⟩,?_⟩
 ·simp[d12,d13]
 ·simp[d23]
 have t4:=t2.ai [(15,.sc (.int .i64 a)),(16,.sc (.int .i64 e))] (by simp)
 refine Pu (x:=aV) (y:=.sc (.int .i64 a)) (z:=.sc (.int .i64 e)) hr rfl t4.e2 t4.e3 t4.e4 ⟨?_,?_,?_⟩ (hR2 _ ?_)
 ·simp[AH.bK,c3.r,d12,d13]
 ·simp[AH.bK,ca,d23,Ne.symm d12]
 ·simp[AH.bK,ce,Ne.symm d13,Ne.symm d23]
 ·exact((f3.put (.inr n1)).put (.inr n2)).put (.inr n3)
theorem Pw(hr:Rel E h w){L:List Tok}(hL:oB L) (hR:rQ (ng L s.size (L.length+1) 0 []) (fun rows=>∀x h',eS h' x rows->df (h.next<=·) x->Fr h h' (fun _=>False)->R (.ret (.cP [x,.sc (.int .i64 0),.sc (.int .i64 0)])) h')
  (fun e=>∀h',Fr h h' (fun _=>False)->R (.ret (.cP [aV,.sc (.int .i64 e.1),.sc (.int .i64 e.2)])) h')) {eW:Nat->AV} {h3:AH} {x:AV} (t:S8 eW s rc ac ec) (g5:eW 5=x) (n1:h.next<=rc) (n2:h.next<=ac) (n3:h.next<=ec)
  (c3:RC h3 rc ac ec aV (.sc (.int .i64 0)) (.sc (.int .i64 0))) (f3:Fr h h3 (fun _=>False)) (hx:bC Tok.enc 3 117 h3 x L):X8 h M R E w ⟨eW,[]⟩ h3:=by
 have Cj:((0:Int) != 0)=false:=by decide
 unfold X8
 simp only[aq.t11,t.e4,aF,c3.e,aA,zA,ab,cy,Cj]
 have nD:ai eW [(13,.sc (.int .i64 0)),(14,.sc (.bool false))] 14=.sc (.bool false):=by simp
 have k5:ai eW [(13,.sc (.int .i64 0)),(14,.sc (.bool false))] 5=x:=by simp[g5]
 have t2:=t.ai [(13,.sc (.int .i64 0)),(14,.sc (.bool false))] (by simp)
 generalize Go.Ab.ai eW [(13,.sc (.int .i64 0)),(14,.sc (.bool false))]=nP at *
 simp only[aq.t10,nD,ap,zE,zC,zH,zD]
 unfold K8
 refine pC Tryz.mixed hr (pl:=aq.pl) Xc (by kernel_rfl) ?_
 rw[aq.UC]
 simp only[aq.t7,t2.e2,t2.e3,t2.e4]
 show TC _ _ _ _ _ _ _ _ ⟨ai nP [(17,.fn (.func 34) [] [.ptr rc 0,.ptr ac 0,.ptr ec 0])],[⟨.func 34,[.ptr rc 0,.ptr ac 0,.ptr ec 0],[]⟩]⟩ h3
 have j5:ai nP [(17,.fn (.func 34) [] [.ptr rc 0,.ptr ac 0,.ptr ec 0])] 5=x:=by simp[k5]
 have t3:=t2.ai [(17,.fn (.func 34) [] [.ptr rc 0,.ptr ac 0,.ptr ec 0])] (by simp)
 generalize Go.Ab.ai nP [(17,.fn (.func 34) [] [.ptr rc 0,.ptr ac 0,.ptr ec 0])]=Tz at *
 refine pC Tryz.mixed hr (pl:=aq.pl) Xb (by kernel_rfl) ?_
 rw[aq.I5]
 simp only[aq.t6,t3.e0,j5,EG,zH,Kz]
 have Y2:b_ x=some [x]/\cF x=true:=by
  rcases hx with⟨rfl,_⟩ |⟨id,rfl,_⟩<;>exact⟨rfl,rfl⟩
 refine⟨[x,.sc (.int .i64 0),.sc (.int .i64 s.size),aV],?_,?_⟩
 ·simp[dU,Y2.1]
 refine⟨[x,.sc (.int .i64 0),.sc (.int .i64 s.size),aV],rfl,by simp only[List.all_cons,Y2.2,List.all_nil];rfl,?_⟩
 have r5:=AH.cg h3 (aI [x,.sc (.int .i64 0),.sc (.int .i64 s.size),aV] 4 89)
 have f5:=(Fr.refl (h:=h3) (S:=fun _=>False)).alloc (aI [x,.sc (.int .i64 0),.sc (.int .i64 s.size),aV] 4 89)
 have c5:=c3.fr f5 (fun h=>h) (fun h=>h) (fun h=>h)
 have ZT:=f3.trans (f5.mono fun _ h=>h.elim)
 have n4:h.next<=h3.next:=f3.next
 have t5:∀u v2:AV,T8 ⟨ai Tz [(18,x),(19,.sc (.string s)),(20,.sc (.int .i64 s.size)),(21,u),(22,v2),(6,.ptr h3.next 0)],[⟨.func 34,[.ptr rc 0,.ptr ac 0,.ptr ec 0],[]⟩]⟩ rc ac ec h3.next x:=fun u v2=>
  have tt:=t3.ai [(18,x),(19,.sc (.string s)),(20,.sc (.int .i64 s.size)),(21,u),(22,v2),(6,.ptr h3.next 0)] (by simp)
  ⟨rfl,tt.e2,tt.e3,tt.e4,by simp[j5],by simp⟩
 rcases hx with⟨rfl,rfl⟩ |⟨id,rfl,ho⟩
 ·exact MN (M:=M) hr (t5 _ _) c5 n1 n2 n3 r5 ZT hR
 ·exact Pv (M:=M) (L:=L) (en:=s.size) (tk:=id) hr hL (t5 _ _) c5 n1 n2 n3 n4 ⟨r5,f5.obj ho (fun h=>h),.nil⟩ ZT hR
end
theorem Nr{s:ByteArray}{h:AH}{M:Nat->Prop}{R:AE->AH->Prop}(hR:GP s h R):aB Pg 19 [.sc (.string s)] h M R:=by
 intro E w dR hr ha
 refine calls_of_wp_defers (c:=aq.code) Tryz.func19 rfl ?_
 have main:TC Pg 36 (fun id=>M id\/h.next<=id) E h w aq.code (bodyPostD Pg Tryz.f19 (pD E h M w R)) (s0 [.sc (.string s)]) h:=by
  refine pC Tryz.mixed hr (pl:=aq.pl) Xf (by kernel_rfl) ?_
  rw[aq.P9]
  simp only[aq.t13,aH]
  refine⟨rfl,rfl,rfl,?_⟩
  simp only[AH.bD]
  have c0:RC (((h.alloc (aI ([.slice none 0 0].map AV.sc) 1 43)).alloc (aI ([.int .i64 0].map AV.sc) 1 3)).alloc (aI ([.int .i64 0].map AV.sc) 1 28)) h.next (h.next+1) (h.next+2) aV (.sc (.int .i64 0)) (.sc (.int .i64 0)):=
   ⟨by simp[AH.bJ,AH.bD];omega,by simp[AH.bJ,AH.bD],by simp[AH.bJ,AH.bD]⟩
  have f0:=(((Fr.refl (h:=h) (S:=fun _=>False)).alloc (aI ([.slice none 0 0].map AV.sc) 1 43)).alloc (aI ([.int .i64 0].map AV.sc) 1 3)).alloc (aI ([.int .i64 0].map AV.sc) 1 28)
  generalize ((h.alloc (aI ([.slice none 0 0].map AV.sc) 1 43)).alloc (aI ([.int .i64 0].map AV.sc) 1 3)).alloc (aI ([.int .i64 0].map AV.sc) 1 28)=h1 at *
  have t0:S8 (ai (s0 [.sc (.string s)]).tm [(2,.ptr h.next 0),(3,.ptr (h.next+1) 0),(4,.ptr (h.next+2) 0)]) s h.next (h.next+1) (h.next+2):=⟨by simp,by simp,by simp,by simp⟩
  show TC _ _ _ _ _ _ _ _ ⟨ai (s0 [.sc (.string s)]).tm [(2,.ptr h.next 0),(3,.ptr (h.next+1) 0),(4,.ptr (h.next+2) 0)],[]⟩ h1
  generalize ai (s0 [.sc (.string s)]).tm [(2,.ptr h.next 0),(3,.ptr (h.next+1) 0),(4,.ptr (h.next+2) 0)]=tm at *
  have n1:h.next<=h.next:=zU _
  have n2:h.next<=h.next+1:=by omega
  have n3:h.next<=h.next+2:=by omega
  refine pC Tryz.mixed hr (pl:=aq.pl) Xe (by kernel_rfl) ?_
  rw[aq.P_]
  simp only[aq.t12,t0.e0,t0.e3,t0.e4]
  refine⟨fun _=>False,fun _ h=>h.elim,RD ?_⟩
  unfold GP kj at hR
  unfold JN
  by_cases hb:65536<s.size
  ·rw[zX hb]at hR ⊢
   intro h2 m1 m2
   exact GV hr t0 n1 n2 n3 f0 c0 ⟨m1,fun i hi _=>m2 i hi⟩ (fun eW h3 t2 _ c3 f3 _=>GW hr (by decide) hR t2 n1 n2 n3 c3 f3)
  rw[zW hb]at hR ⊢
  cases gh:fB s 0 [] with
  |error p=>
   rw[gh]at hR
   intro h2 m1 m2
   exact GV hr t0 n1 n2 n3 f0 c0 ⟨m1,fun i hi _=>m2 i hi⟩ (fun eW h3 t2 _ c3 f3 _=>GW hr (show(90:Int)≠0 by decide) hR t2 n1 n2 n3 c3 f3)
  |ok L=>
   rw[gh]at hR
   simp only at hR
   have hL:=EJ (by omega) gh
   intro x h2 hx ix m1 m2
   refine GV hr t0 n1 n2 n3 f0 c0 ⟨m1,fun i hi _=>m2 i hi⟩ (fun eW h3 t2 g5 c3 f3 dr=>Pw hr hL hR t2 g5 n1 n2 n3 c3 f3 ?_)
   rcases hx with hx |⟨id,hx,ho⟩
   ·exact .inl hx
   ·exact .inr ⟨id,hx,dr id _ ho (by show(117:Nat)≠3;decide) (by show(117:Nat)≠28;decide)⟩
 exact main E w _ (Step.refl hr) (IM ha (n:=36) (by simp))
end
section
open Go.Ab
def qh(p:Int->Bool)(s:ByteArray):Nat->Nat->Nat
 |0,i=>i
 |n+1,i=>if i<s.size then(if p (dn s i) then qh p s n (i+1) else i) else i
theorem Ht(p:Int->Bool)(s:ByteArray):∀(n i:Nat),s.size-i<=n->qh p s n i=eN p s i
 |0,i,h=>by rw[qh,eN,dif_neg (by omega)]
 |n+1,i,h=>by
  rw[qh,eN]
  by_cases hi:i<s.size
  ·have hb:dn s i=s[i].toNat:=by simp[dn,hi]
   rw[zX hi,dif_pos hi,hb,Ht p s n (i+1) (by omega)]
  ·rw[zW hi,dif_neg hi]
def NK(s:ByteArray)(i:Nat)(c:Int):Rb:=
 if kw c then .skip (i+1)
 else if c==35 then .skip (qh (fun c=>c != 10) s s.size i)
 else if ed c then .tok ⟨1,s.extract i (qh fm s s.size i),i⟩ (qh fm s s.size i)
 else if isDigit c then(if decide (qh isDigit s s.size i<s.size)&&ed (dn s (qh isDigit s s.size i)) then .err (qh isDigit s s.size i) else .tok ⟨2,s.extract i (qh isDigit s s.size i),i⟩ (qh isDigit s s.size i))
 else if pi c then .tok ⟨3,s.extract i (i+1),i⟩ (i+1)
 else .err i
theorem Si(s:ByteArray)(i:Nat)(c:Int):NK s i c=jb s i c:=by
 unfold NK jb
 simp only[Ht _ s s.size i (by omega)]
def xG(s:ByteArray):Nat->Nat->List Tok->Except Nat (List Tok)
 |0,_,acc=>.ok acc
 |n+1,i,acc=>if i<s.size then
   match NK s i (dn s i) with
   |.skip j=>if i<j then xG s n j acc else .error 0
   |.tok t j=>if i<j then xG s n j (acc++[t]) else .error 0
   |.err j=>.error j
  else .ok acc
theorem zo(s:ByteArray):∀(n i:Nat)(acc:List Tok),s.size-i<=n->xG s n i acc=fB s i acc
 |0,i,acc,h=>by rw[xG,fB,dif_neg (by omega)]
 |n+1,i,acc,h=>by
  rw[xG,fB]
  by_cases hi:i<s.size
  ·rw[zX hi,dif_pos hi,Si]
   cases jb s i (dn s i) with
   |skip j=>
    simp only
    by_cases hj:i<j
    ·rw[zX hj,zX hj,zo s n j acc (by omega)]
    ·rw[zW hj,zW hj]
   |tok t j=>
    simp only
    by_cases hj:i<j
    ·rw[zX hj,zX hj,zo s n j _ (by omega)]
    ·rw[zW hj,zW hj]
   |err j=>rfl
  ·rw[zW hi,dif_neg hi]
def Kt(s:ByteArray):iF (List Row):=
 if 65536<s.size then .error (0,1)
 else match xG s s.size 0 [] with
 |.error p=>.error (p,90)
 |.ok L=>ng L s.size (L.length+1) 0 []
theorem wh(s:ByteArray):Kt s=kj s:=by
 unfold Kt kj
 rw[zo s s.size 0 [] (by omega)]
 try rfl
end
end Go.Proofs.YtjehibknlmehmaaGreatDoor
