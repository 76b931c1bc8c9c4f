/- The parser in plain Lean; contracts of the reader of package parse, and of parse.Parse. No condition. -/
import Derived.Test.YtjehibknlmehmaaGreatGp
import Derived.Test.YtjehibknlmehmaaGreatVa
set_option maxRecDepth 100000
namespace Go.Proofs.YtjehibknlmehmaaGreat
section
open Go.Ab
structure Arg where
 name:ByteArray
 index:Int
structure Row where
 kind:ByteArray
 name:ByteArray
 args:List Arg
 num:Int
 rows:Int
 place:Int
abbrev dq(α:Type):=Except (Int×Int) α
abbrev bF:ByteArray:=⟨#[113,117,98,105,116,115]⟩
abbrev cE:ByteArray:=⟨#[98,105,116,115]⟩
abbrev bD:ByteArray:=⟨#[103,97,116,101]⟩
abbrev aT:ByteArray:=⟨#[114,101,112,101,97,116]⟩
abbrev eZ:ByteArray:=⟨#[105,102]⟩
abbrev bT:ByteArray:=⟨#[109,101,97,115,117,114,101]⟩
abbrev cV:ByteArray:=⟨#[114,101,115,101,116]⟩
abbrev cn:ByteArray:=⟨#[117,115,101]⟩
abbrev bZ:ByteArray:=⟨#[]⟩
abbrev r8:ByteArray:=⟨#[59]⟩
abbrev lV:ByteArray:=⟨#[123]⟩
abbrev Eo:ByteArray:=⟨#[125]⟩
abbrev M6:ByteArray:=⟨#[91]⟩
abbrev CP:ByteArray:=⟨#[93]⟩
def uu(s:ByteArray):Bool:=decide (s=bF)||decide (s=cE)||decide (s=bD)||decide (s=aT)||decide (s=eZ)||decide (s=bT)||decide (s=cV)
section
variable (L:List Tok) (en:Int)
def dF(p:Nat)(w:Bool):dq Tok:=
 match L[p]? with
 |none=>.error (en,101)
 |some t=>if w then .ok t else .error (t.at_,100)
def gE(p:Nat)(s:ByteArray):Bool:=match L[p]? with |some t=>t.kind==3&&decide (t.text=s) |none=>false
def ic(p:Nat):Bool:=match L[p]? with |some t=>t.kind==1&&!uu t.text |none=>false
def gh(p:Nat):Bool:=match L[p]? with |some t=>t.kind==2 |none=>false
def eK(p:Nat):Bool:=match L[p]? with |some t=>t.kind==1 |none=>false
def cO(p:Nat):dq ByteArray:=(dF L en p (ic L p)).map (·.text)
def eE(p:Nat)(s:ByteArray):dq Tok:=dF L en p (gE L p s)
def jP:List UInt8->Int->Option Int
 |[],n=>some n
 |c::l,n=>if n*10+((c.toNat:Int)-48) > 9007199254740991 then none else jP l (n*10+((c.toNat:Int)-48))
def bY(p:Nat):dq Int:=
 match dF L en p (gh L p) with
 |.error e=>.error e
 |.ok t=>match jP t.text.data.toList 0 with
  |some n=>.ok n
  |none=>.error (t.at_,1)
def dX(p:Nat):dq (Arg×Nat):=
 match cO L en p with
 |.error e=>.error e
 |.ok nm=>
  if gE L (p+1) M6 then
   match bY L en (p+2) with
   |.error e=>.error e
   |.ok n=>match eE L en (p+3) CP with
    |.error e=>.error e
    |.ok _=>.ok (⟨nm,n⟩,p+4)
  else .ok (⟨nm,-1⟩,p+1)
def ie:Nat->Nat->List Arg->dq (List Arg×Nat)
 |0,_,_=>.error (0,-1)
 |n+1,p,acc=>if ic L p then
   match cO L en p with
   |.error e=>.error e
   |.ok nm=>ie n (p+1) (acc++[⟨nm,-1⟩])
  else .ok (acc,p)
def jC:Nat->Nat->List Arg->dq (List Arg×Nat)
 |0,_,_=>.error (0,-1)
 |n+1,p,acc=>if ic L p then
   match dX L en p with
   |.error e=>.error e
   |.ok (a,p')=>jC n p' (acc++[a])
  else .ok (acc,p)
def fV(step:Nat->dq (Nat×List Row)):Nat->Nat->List Row->dq (Nat×List Row)
 |0,_,_=>.error (0,-1)
 |n+1,p,acc=>if gE L p Eo then .ok (p,acc) else
   match step p with
   |.error e=>.error e
   |.ok (p',new)=>fV step n p' (acc++new)
def lT(k:Nat)(step:Nat->dq (Nat×List Row))(p:Nat):dq (Nat×List Row):=
 match eE L en p lV with
 |.error e=>.error e
 |.ok t=>match k with
  |0=>.error (t.at_,102)
  |_=>match fV L step (L.length+1) (p+1) [] with
   |.error e=>.error e
   |.ok (p',rows)=>.ok (p'+1,rows)
def gg(p:Nat)(row:Row):dq (Nat×List Row):=
 match eE L en p r8 with
 |.error e=>.error e
 |.ok _=>.ok (p+1,[row])
def iJ(k:Nat)(step:Nat->dq (Nat×List Row))(p:Nat)(row:Row):dq (Nat×List Row):=
 match lT L en k step p with
 |.error e=>.error e
 |.ok (p',rows)=>.ok (p',{ row with rows:=rows.length }::rows)
def fm:Nat->Nat->dq (Nat×List Row)
 |k,p=>
  let step:Nat->dq (Nat×List Row):=match k with |0=>fun _=>.error (0,-1) |k'+1=>fm k'
  match dF L en p (eK L p) with
  |.error e=>.error e
  |.ok t=>
   if t.text=bF\/t.text=cE then
    match cO L en (p+1) with
    |.error e=>.error e
    |.ok nm=>match bY L en (p+2) with
     |.error e=>.error e
     |.ok n=>gg L en (p+3) ⟨t.text,nm,[],n,0,t.at_⟩
   else if t.text=bD then
    match cO L en (p+1) with
    |.error e=>.error e
    |.ok nm=>match ie L en (L.length+1) (p+2) [] with
     |.error e=>.error e
     |.ok (l,p')=>iJ L en k step p' ⟨t.text,nm,l,0,0,t.at_⟩
   else if t.text=aT then
    match bY L en (p+1) with
    |.error e=>.error e
    |.ok n=>iJ L en k step (p+2) ⟨t.text,bZ,[],n,0,t.at_⟩
   else if t.text=eZ then
    match cO L en (p+1) with
    |.error e=>.error e
    |.ok nm=>match bY L en (p+2) with
     |.error e=>.error e
     |.ok n=>iJ L en k step (p+3) ⟨t.text,nm,[],n,0,t.at_⟩
   else if t.text=bT then
    match dX L en (p+1) with
    |.error e=>.error e
    |.ok (a,p1)=>match dX L en p1 with
     |.error e=>.error e
     |.ok (b,p2)=>gg L en p2 ⟨t.text,bZ,[a,b],0,0,t.at_⟩
   else if t.text=cV then
    match dX L en (p+1) with
    |.error e=>.error e
    |.ok (a,p1)=>gg L en p1 ⟨t.text,bZ,[a],0,0,t.at_⟩
   else
    match jC L en (L.length+1) (p+1) [] with
    |.error e=>.error e
    |.ok (l,p')=>gg L en p' ⟨cn,t.text,l,0,0,t.at_⟩
def lq:Nat->Nat->List Row->dq (List Row)
 |0,_,_=>.error (0,-1)
 |n+1,p,acc=>if p<L.length then
   match fm L en 32 p with
   |.error e=>.error e
   |.ok (p',new)=>lq n p' (acc++new)
  else .ok acc
end
end
section
open Go.Ab
section
variable {L:List Tok} {en:Int}
def fA(L:List Tok)(en:Int)(k:Nat):Nat->dq (Nat×List Row):=match k with |0=>fun _=>.error (0,-1) |k'+1=>fm L en k'
def mD(L:List Tok)(en:Int)(k:Nat)(step:Nat->dq (Nat×List Row))(p:Nat)(t:Tok):dq (Nat×List Row):=
 if t.text=bF\/t.text=cE then
  match cO L en (p+1) with
  |.error e=>.error e
  |.ok nm=>match bY L en (p+2) with
   |.error e=>.error e
   |.ok n=>gg L en (p+3) ⟨t.text,nm,[],n,0,t.at_⟩
 else if t.text=bD then
  match cO L en (p+1) with
  |.error e=>.error e
  |.ok nm=>match ie L en (L.length+1) (p+2) [] with
   |.error e=>.error e
   |.ok (l,p')=>iJ L en k step p' ⟨t.text,nm,l,0,0,t.at_⟩
 else if t.text=aT then
  match bY L en (p+1) with
  |.error e=>.error e
  |.ok n=>iJ L en k step (p+2) ⟨t.text,bZ,[],n,0,t.at_⟩
 else if t.text=eZ then
  match cO L en (p+1) with
  |.error e=>.error e
  |.ok nm=>match bY L en (p+2) with
   |.error e=>.error e
   |.ok n=>iJ L en k step (p+3) ⟨t.text,nm,[],n,0,t.at_⟩
 else if t.text=bT then
  match dX L en (p+1) with
  |.error e=>.error e
  |.ok (a,p1)=>match dX L en p1 with
   |.error e=>.error e
   |.ok (b,p2)=>gg L en p2 ⟨t.text,bZ,[a,b],0,0,t.at_⟩
 else if t.text=cV then
  match dX L en (p+1) with
  |.error e=>.error e
  |.ok (a,p1)=>gg L en p1 ⟨t.text,bZ,[a],0,0,t.at_⟩
 else
  match jC L en (L.length+1) (p+1) [] with
  |.error e=>.error e
  |.ok (l,p')=>gg L en p' ⟨cn,t.text,l,0,0,t.at_⟩
theorem qi(k p:Nat):fm L en k p=(match dF L en p (eK L p) with |.error e=>.error e |.ok t=>mD L en k (fA L en k) p t):=by
 cases k<;>rfl
theorem kq{p:Nat}{w:Bool}{t:Tok}(h:dF L en p w=.ok t):p<L.length/\L[p]?=some t/\w=true:=by
 unfold dF at h
 cases hg:L[p]? with
 |none=>rw[hg]at h;cases h
 |some t'=>
  rw[hg]at h
  cases w
  ·cases h
  ·cases h;exact⟨(zM.1 hg).1,rfl,rfl⟩
theorem na{p:Nat}{s:ByteArray}(h:cO L en p=.ok s):p<L.length/\∃t,L[p]?=some t/\t.text=s/\ic L p=true:=by
 unfold cO at h
 cases hn:dF L en p (ic L p) with
 |error e=>rw[hn]at h;cases h
 |ok t=>
  rw[hn]at h;cases h
  have:=kq hn
  exact⟨this.1,t,this.2.1,rfl,this.2.2⟩
theorem vp{p:Nat}{s:ByteArray}{t:Tok}(h:eE L en p s=.ok t):p<L.length:=(kq h).1
theorem vF{p:Nat}{n:Int}(h:bY L en p=.ok n):p<L.length:=by
 unfold bY at h
 cases hn:dF L en p (gh L p) with
 |error e=>rw[hn]at h;cases h
 |ok t=>exact(kq hn).1
theorem j3{p p':Nat}{a:Arg}(h:dX L en p=.ok (a,p')):p<p'/\p'<=L.length:=by
 unfold dX at h
 cases hn:cO L en p with
 |error e=>rw[hn]at h;cases h
 |ok nm=>
  have h1:=(na hn).1
  rw[hn]at h
  simp only at h
  split at h
  ·cases hu:bY L en (p+2) with
   |error e=>rw[hu]at h;cases h
   |ok n=>
    rw[hu]at h
    cases hs:eE L en (p+3) CP with
    |error e=>rw[hs]at h;cases h
    |ok t=>
     rw[hs]at h;cases h
     have:=vp hs
     omega
  ·cases h;omega
theorem tH:∀(n p:Nat)(acc:List Arg){l:List Arg}{p':Nat},p<=L.length->ie L en n p acc=.ok (l,p')->p<=p'/\p'<=L.length/\l.length+p=acc.length+p'
 |0,_,_,_,_,_,h=>by simp[ie]at h
 |n+1,p,acc,l,p',hp,h=>by
  simp only[ie]at h
  split at h
  ·cases hn:cO L en p with
   |error e=>rw[hn]at h;cases h
   |ok nm=>
    rw[hn]at h
    have h1:=(na hn).1
    have:=tH n (p+1) _ (by omega) h
    simp at this;omega
  ·cases h;omega
theorem vY:∀(n p:Nat)(acc:List Arg){l:List Arg}{p':Nat},p<=L.length->jC L en n p acc=.ok (l,p')->p<=p'/\p'<=L.length/\l.length+p<=acc.length+p'
 |0,_,_,_,_,_,h=>by simp[jC]at h
 |n+1,p,acc,l,p',hp,h=>by
  simp only[jC]at h
  split at h
  ·cases hn:dX L en p with
   |error e=>rw[hn]at h;cases h
   |ok x=>
    obtain⟨a,p1⟩:=x
    rw[hn]at h
    have h1:=j3 hn
    have:=vY n p1 _ (by omega) h
    simp at this;omega
  ·cases h;omega
def wc(L:List Tok)(step:Nat->dq (Nat×List Row)):Prop:=∀p p' new,step p=.ok (p',new)->p<p'/\p'<=L.length/\new.length+p<=p'
theorem Fy{step:Nat->dq (Nat×List Row)}(hs:wc L step):∀(n p:Nat)(acc:List Row){l:List Row}{p':Nat},fV L step n p acc=.ok (p',l)->p<=p'/\p'<L.length/\l.length+p<=acc.length+p'
 |0,_,_,_,_,h=>by simp[fV]at h
 |n+1,p,acc,l,p',h=>by
  simp only[fV]at h
  split at h
  ·rename_i gp
   cases h
   unfold gE at gp
   cases hg:L[p]? with
   |none=>rw[hg]at gp;cases gp
   |some t=>
    have:=(zM.1 hg).1
    omega
  ·cases hn:step p with
   |error e=>rw[hn]at h;cases h
   |ok x=>
    obtain⟨p1,new⟩:=x
    rw[hn]at h
    have h1:=hs _ _ _ hn
    have:=Fy hs n p1 _ h
    simp at this;omega
theorem VN{k:Nat}{step:Nat->dq (Nat×List Row)}(hs:wc L step){p p':Nat}{l:List Row}(h:lT L en k step p=.ok (p',l)):p<p'/\p'<=L.length/\l.length+p<p':=by
 unfold lT at h
 cases hn:eE L en p lV with
 |error e=>rw[hn]at h;cases h
 |ok t=>
  rw[hn]at h
  cases k with
  |zero=>cases h
  |succ k=>
   simp only at h
   cases hl:fV L step (L.length+1) (p+1) [] with
   |error e=>rw[hl]at h;cases h
   |ok x=>
    obtain⟨p1,rows⟩:=x
    rw[hl]at h
    cases h
    have:=Fy hs _ _ _ hl
    simp at this;omega
theorem qq{p p':Nat}{row:Row}{l:List Row}(h:gg L en p row=.ok (p',l)):p'=p+1/\p'<=L.length/\l=[row]:=by
 unfold gg at h
 cases hn:eE L en p r8 with
 |error e=>rw[hn]at h;cases h
 |ok t=>rw[hn]at h;cases h;have:=vp hn;exact⟨rfl,by omega,rfl⟩
theorem AI{k:Nat}{step:Nat->dq (Nat×List Row)}(hs:wc L step){p p':Nat}{row:Row}{l:List Row}(h:iJ L en k step p row=.ok (p',l)):p<p'/\p'<=L.length/\l.length+p<=p':=by
 unfold iJ at h
 cases hn:lT L en k step p with
 |error e=>rw[hn]at h;cases h
 |ok x=>obtain⟨p1,rows⟩:=x;rw[hn]at h;cases h;have:=VN hs hn;simp;omega
theorem MU{k:Nat}{step:Nat->dq (Nat×List Row)}(hs:wc L step){p p':Nat}{t:Tok}{l:List Row}(hp:p<L.length)(h:mD L en k step p t=.ok (p',l)):p<p'/\p'<=L.length/\l.length+p<=p':=by
 unfold mD at h
 split at h
 ·cases h1:cO L en (p+1) with
  |error e=>rw[h1]at h;cases h
  |ok nm=>
   rw[h1]at h;simp only at h
   cases h2:bY L en (p+2) with
   |error e=>rw[h2]at h;cases h
   |ok n=>rw[h2]at h;obtain⟨rfl,a,rfl⟩:=qq h;simp;omega
 split at h
 ·cases h1:cO L en (p+1) with
  |error e=>rw[h1]at h;cases h
  |ok nm=>
   rw[h1]at h;simp only at h
   have:=(na h1).1
   cases h2:ie L en (L.length+1) (p+2) [] with
   |error e=>rw[h2]at h;cases h
   |ok x=>obtain⟨l2,p2⟩:=x;rw[h2]at h;have a:=tH _ _ _ (by omega) h2;have b:=AI hs h;omega
 split at h
 ·cases h1:bY L en (p+1) with
  |error e=>rw[h1]at h;cases h
  |ok n=>rw[h1]at h;have b:=AI hs h;omega
 split at h
 ·cases h1:cO L en (p+1) with
  |error e=>rw[h1]at h;cases h
  |ok nm=>
   rw[h1]at h;simp only at h
   cases h2:bY L en (p+2) with
   |error e=>rw[h2]at h;cases h
   |ok n=>rw[h2]at h;have b:=AI hs h;omega
 split at h
 ·cases h1:dX L en (p+1) with
  |error e=>rw[h1]at h;cases h
  |ok x=>
   obtain⟨a,p1⟩:=x
   rw[h1]at h;simp only at h
   have:=j3 h1
   cases h2:dX L en p1 with
   |error e=>rw[h2]at h;cases h
   |ok y=>obtain⟨b,p2⟩:=y;rw[h2]at h;have:=j3 h2;obtain⟨rfl,a,rfl⟩:=qq h;simp;omega
 split at h
 ·cases h1:dX L en (p+1) with
  |error e=>rw[h1]at h;cases h
  |ok x=>
   obtain⟨a,p1⟩:=x
   rw[h1]at h;simp only at h
   have:=j3 h1
   obtain⟨rfl,a,rfl⟩:=qq h;simp;omega
 ·cases h1:jC L en (L.length+1) (p+1) [] with
  |error e=>rw[h1]at h;cases h
  |ok x=>
   obtain⟨l2,p2⟩:=x
   rw[h1]at h;simp only at h
   have:=vY _ _ _ (by omega) h1
   obtain⟨rfl,a,rfl⟩:=qq h;simp;omega
theorem sD:∀(k:Nat),wc L (fm L en k):=by
 have key:∀k,wc L (fA L en k)->wc L (fm L en k):=by
  intro k hk p p' new h
  rw[qi]at h
  cases h1:dF L en p (eK L p) with
  |error e=>rw[h1]at h;cases h
  |ok t=>rw[h1]at h;exact MU hk (kq h1).1 h
 intro k
 induction k with
 |zero=>exact key 0 (fun _ _ _ h=>by simp[fA]at h)
 |succ k ih=>exact key (k+1) ih
end
end
section
open Go.Ab
abbrev kS(l:List Tok):AO:=aP (l.flatMap Tok.enc) 3 84
abbrev m_(tk n:Nat)(p en:Int)(rv:AV):AO:=aP [.sl tk 0 n,.sc (.int .i64 p),.sc (.int .i64 en),rv] 4 69
def d_(e:Int×Int):AV:=.lz 65 (.agg [.sc (.int .i64 e.1),.sc (.int .i64 e.2)])
def rJ{α:Type}(x:dq α)(K:α->Prop)(KP:Int×Int->Prop):Prop:=match x with |.ok a=>K a |.error e=>KP e
theorem OV:mS Pg 84=some true:=by kernel_rfl
theorem MP:gG Pg 84=some 3:=by kernel_rfl
section
variable {h:AH} {r tk:Nat} {L:List Tok} {en:Int} {rv:AV} {M:Nat->Prop} {R:AE->AH->Prop} {p:Nat}
theorem T1{s:ByteArray}(hR:R (.ret (.sc (.bool (uu s)))) h):aA Pg 82 [.sc (.string s)] h M R:=by
 apply YB.calls
 unfold uu at hR
 by_cases h1:s=bF
 ·simp[h1]at hR;simp[h1,hR]
 by_cases h2:s=cE
 ·simp[h1,h2]at hR;simp[h1,h2,hR]
 by_cases h3:s=bD
 ·simp[h1,h2,h3]at hR;simp[h1,h2,h3,hR]
 by_cases h4:s=aT
 ·simp[h1,h2,h3,h4]at hR;simp[h1,h2,h3,h4,hR]
 by_cases h5:s=eZ
 ·simp[h1,h2,h3,h4,h5]at hR;simp[h1,h2,h3,h4,h5,hR]
 by_cases h6:s=bT
 ·simp[h1,h2,h3,h4,h5,h6]at hR;simp[h1,h2,h3,h4,h5,h6,hR]
 by_cases h7:s=cV
 ·simp[h1,h2,h3,h4,h5,h6,h7]at hR;simp[h1,h2,h3,h4,h5,h6,h7,hR]
 simp[h1,h2,h3,h4,h5,h6,h7]at hR;simp[h1,h2,h3,h4,h5,h6,h7,hR]
theorem CZ{sg:ByteArray}(hr:h.obj r=some (m_ tk L.length p en rv))(ht:h.obj tk=some (kS L))(hR:R (.ret (.sc (.bool (gE L p sg)))) h):aA Pg 81 [.ptr r 0,.sc (.string sg)] h M R:=by
 apply YC.calls
 unfold gE at hR
 by_cases aL:p<L.length
 ·by_cases hk:L[p].kind=3
  ·simp[aL,hk]at hR
   simp[hr,aL,ht,eT Tok.bu,ep Tok.bu,Tok.enc,hk]
   exact hR
  ·simp[aL,hk]at hR
   have pH:(L[p].kind==3)=false:=by simpa using hk
   rw[pH]at hR
   simp[hr,aL,ht,eT Tok.bu,ep Tok.bu,Tok.enc,hk]
   exact hR
 ·simp[aL]at hR
  simp[hr,aL]
  exact hR
theorem Au(hr:h.obj r=some (m_ tk L.length p en rv))(ht:h.obj tk=some (kS L))(hR:R (.ret (.sc (.bool (ic L p)))) h):aA Pg 59 [.ptr r 0] h M R:=by
 apply YG.calls
 unfold ic at hR
 by_cases aL:p<L.length
 ·by_cases hk:L[p].kind=1
  ·simp[aL,hk]at hR
   simp[hr,aL,ht,eT Tok.bu,ep Tok.bu,Tok.enc,hk]
   refine⟨fun _=>False,fun _ h=>h.elim,T1 ?_⟩
   simp
   exact hR
  ·simp[aL,hk]at hR
   have pH:(L[p].kind==1)=false:=by simpa using hk
   rw[pH]at hR
   simp[hr,aL,ht,eT Tok.bu,ep Tok.bu,Tok.enc,hk]
   exact hR
 ·simp[aL]at hR
  simp[hr,aL]
  exact hR
theorem st{wt:Bool}(hM:M r)(hL:L.length<=65536)(hr:h.obj r=some (m_ tk L.length p en rv))(ht:h.obj tk=some (kS L))
  (hR:rJ (dF L en p wt) (fun t=>∀h',Fr h h' (·=r)->h'.obj r=some (m_ tk L.length (p+1:Nat) en rv)->R (.ret (.agg t.enc)) h') (fun e=>∀h',Fr h h' (·=r)->R (.bW (d_ e)) h')) :
  aA Pg 55 [.ptr r 0,.sc (.bool wt)] h M R:=by
 have jJ:=h.lt _ _ hr
 have tK:=h.lt _ _ ht
 apply YJ.calls
 unfold dF rJ at hR
 by_cases aL:p<L.length
 ·have hg:L[p]?=some L[p]:=zJ aL
  have ka:¬(L.length:Int)<=p:=by omega
  have hw:IntKind.i64.wrap ((p:Int)+1)=(p:Int)+1:=aR (by omega) (by omega)
  cases wt
  ·simp[aL]at hR
   simp[hr,ht,aL,ka,hw,hM,AH.da,AH.cm,AH.cg,AH.vz,nK jJ,nK tK,eT Tok.bu,ep Tok.bu,OV,MP,rj Tok.bu _ _ _ hg,Tok.enc,xe]
   refine⟨by omega,?_⟩
   exact hR _ (((Fr.refl.alloc _).alloc _).put (.inr (Nat.le_succ _)))
  ·simp[aL]at hR
   simp[hr,ht,aL,ka,hw,hM,AH.da,AH.cm,AH.cg,AH.vz,nK jJ,nK tK,eT Tok.bu,ep Tok.bu,OV,MP,rj Tok.bu _ _ _ hg,Tok.enc,xe]
   refine⟨by omega,?_⟩
   refine hR _ ?_ ?_
   ·(repeat' first |exact Fr.refl |refine Fr.alloc ?_ _ |refine Fr.put ?_ ?_)<;>first |exact .inl rfl |exact .inr (by omega)
   simp[AH.da,AH.cm,AH.cg,AH.vz,nK jJ,hr]
 ·simp[aL]at hR
  have ka:L.length<=p:=by omega
  simp[hr,aL,ka,nK jJ,AH.da]
  exact hR _ (Fr.refl.alloc _)
theorem CM{sg:ByteArray}(hM:M r)(hL:L.length<=65536)(hr:h.obj r=some (m_ tk L.length p en rv))(ht:h.obj tk=some (kS L))
  (hR:rJ (eE L en p sg) (fun t=>∀h',Fr h h' (·=r)->h'.obj r=some (m_ tk L.length (p+1:Nat) en rv)->R (.ret (.agg t.enc)) h') (fun e=>∀h',Fr h h' (·=r)->R (.bW (d_ e)) h')) :
  aA Pg 58 [.ptr r 0,.sc (.string sg)] h M R:=by
 have jJ:=h.lt _ _ hr
 have tK:=h.lt _ _ ht
 apply YH.calls
 simp[OV,MP]
 have zj:(h.alloc (aP [.sc (.int .i64 0),.sc (.string ⟨#[]⟩),.sc (.int .i64 0)] 3 84)).obj r=some (m_ tk L.length p en rv):=by rw[AH.dM jJ];exact hr
 have XU:(h.alloc (aP [.sc (.int .i64 0),.sc (.string ⟨#[]⟩),.sc (.int .i64 0)] 3 84)).obj tk=some (kS L):=by rw[AH.dM tK];exact ht
 refine⟨fun _=>False,fun _ h=>h.elim,CZ zj XU ?_⟩
 refine⟨(·=r),fun _ h _=>h ▸ .inl hM,st rfl hL zj XU ?_⟩
 show rJ (eE L en p sg) _ _
 have hf:=(Fr.refl (h:=h) (S:=(·=r))).alloc (aP [.sc (.int .i64 0),.sc (.string ⟨#[]⟩),.sc (.int .i64 0)] 3 84)
 cases hs:eE L en p sg with
 |error e=>
  rw[hs]at hR
  intro h' h1
  exact⟨rfl,hR _ (hf.trans (h1.mono fun _ h=>.inl h))⟩
 |ok t=>
  rw[hs]at hR
  intro h' h1 h2
  have h3:=h1.obj (AH.b_ _ _) (nK jJ).2.1
  have h4:=h1.next
  simp only[AH.cm]at h4
  simp[h3,AH.cg,Tok.enc]
  refine hR _ ((hf.trans (h1.mono fun _ h=>.inl h)).put (.inr (zU _))) ?_
  rw[AH.lr (nK jJ).1];exact h2
theorem C5(hM:M r)(hL:L.length<=65536)(hr:h.obj r=some (m_ tk L.length p en rv))(ht:h.obj tk=some (kS L))
  (hR:rJ (cO L en p) (fun s=>∀h',Fr h h' (·=r)->h'.obj r=some (m_ tk L.length (p+1:Nat) en rv)->R (.ret (.sc (.string s))) h') (fun e=>∀h',Fr h h' (·=r)->R (.bW (d_ e)) h')) :
  aA Pg 56 [.ptr r 0] h M R:=by
 apply YI.calls
 simp
 refine⟨fun _=>False,fun _ h=>h.elim,Au hr ht ?_⟩
 refine⟨(·=r),fun _ h _=>h ▸ .inl hM,st rfl hL hr ht ?_⟩
 unfold cO at hR
 cases hs:dF L en p (ic L p) with
 |error e=>
  rw[hs]at hR
  intro h' h1
  exact⟨rfl,hR _ h1⟩
 |ok t=>
  rw[hs]at hR
  intro h' h1 h2
  have:=hR _ h1 h2
  simpa[m9,Tok.enc] using this
end
end
section
open Go.Ab
def Hf(L:List Tok):Prop:=∀t∈L,t.kind=2->∀c∈t.text.data.toList,48<=c.toNat/\c.toNat<=57
abbrev vE(t:Tok):AO:=aP [.sc (.int .i64 t.kind),.sc (.string t.text),.sc (.int .i64 t.at_)] 3 84
abbrev Wu(s:ByteArray)(i:Nat):AO:={ cells:=[],sz:=0,ty:=0,kind:=.iter s i }
theorem yX(s:ByteArray)(i:Nat)(h:i<s.size):s.data.toList.drop i=s[i]::s.data.toList.drop (i+1):=by
 rw[List.drop_eq_getElem_cons (by simpa using h)];rfl
section
variable {W:Nat->Prop} {Q:cH} {QP:cb} {h:AH} {tm:Nat->AV} {tc:Nat} {t:Tok}
theorem Pe(hW:∀id,h.next<=id->W id)(hs:t.text.size<=65536)(hd:∀c∈t.text.data.toList,48<=c.toNat/\c.toNat<=57)(h3:tm 3=.ptr tc 0)(hc:h.obj tc=some (vE t))
  (hQ:match jP t.text.data.toList 0 with
   |some n=>∀dY h',dY 2=.sc (.int .i64 n)->Fr h h' (fun _=>False)->Q .ret ⟨dY,[]⟩ h'
   |none=>∀h',Fr h h' (fun _=>False)->QP [] (d_ (t.at_,1)) h'):tp.cZ W Q QP ⟨tm,[]⟩ h:=by
 simp[-tp.k8,h3,hc,rk]
 unfold tp.k8
 have QH:=h.lt _ _ hc
 refine gY (ι:=Nat) (fun i s' h'=>s'.ds=[]/\s'.tm 3=.ptr tc 0/\s'.tm 35=.ptr h.next 0/\i<=t.text.size/\h'.obj h.next=some (Wu t.text i)/\Fr h h' (fun _=>False) /\
  ∃n:Int,0<=n/\n<=9007199254740991/\s'.tm 4=.sc (.int .i64 n)/\jP (t.text.data.toList.drop i) n=jP t.text.data.toList 0) (fun i=>t.text.size-i) 0 ?_ ?_
 ·refine⟨rfl,by simp[h3],by simp,by omega,AH.b_ _ _,Fr.refl.alloc _,0,by omega,by omega,by simp,rfl⟩
 rintro i ⟨dY,ds⟩ h' ⟨rfl,e3,VA,hi,zp,hf,n,wE,iO,e4,hv⟩
 simp only at e3 VA e4
 rw[tp.l1]
 simp only[tp.k7,VA,t_]
 refine⟨_,t.text,i,⟨hW _ (zU _),zp,rfl,rfl⟩,?_⟩
 have uW:=hf.obj hc (fun h=>h)
 by_cases aL:i<t.text.size
 ·rw[zX aL]
  have gA:t.text[i]∈t.text.data.toList:=by
   have:t.text.data.toList.drop i=t.text[i]::t.text.data.toList.drop (i+1):=yX _ _ aL
   exact List.mem_of_mem_drop (i:=i) (by rw[this];simp)
  obtain⟨d0,d1⟩:=hd _ gA
  rw[decode_ascii _ _ aL (by omega)]
  rw[yX _ _ aL]at hv
  simp only[jP]at hv
  generalize t.text[i].toNat=c at *
  have w1:IntKind.i64.wrap (n*10)=n*10:=aR (by omega) (by omega)
  have w2:IntKind.i32.wrap ((c:Int)-48)=(c:Int)-48:=IntWalk.i32_in _ (by omega)
  have w3:IntKind.i64.wrap ((c:Int)-48)=(c:Int)-48:=aR (by omega) (by omega)
  have w4:IntKind.i64.wrap (n*10+((c:Int)-48))=n*10+((c:Int)-48):=aR (by omega) (by omega)
  by_cases BX:n*10+((c:Int)-48) > 9007199254740991
  ·rw[zX BX]at hv
   rw[<-hv]at hQ
   have AF:9007199254740991<n*10+((c:Int)-48):=BX
   simp[e3,e4,w1,w2,w3,w4,AF,AH.qE,nK QH,uW]
   exact hQ _ (hf.E4 (zU _))
  ·rw[zW BX]at hv
   have AF:¬9007199254740991<n*10+((c:Int)-48):=BX
   simp[e3,e4,VA,w1,w2,w3,w4,AF]
   exact⟨i+1,by omega,by omega,by simp[AH.qE,zp],hf.E4 (zU _),n*10+((c:Int)-48),by omega,by omega,rfl,hv⟩
 ·rw[zW aL]
  have:t.text.data.toList.drop i=[]:=List.drop_eq_nil_of_le (by simp;omega)
  rw[this]at hv
  simp only[jP]at hv
  rw[<-hv]at hQ
  simp[e4]
  exact hQ _ _ (by simp) hf
end
section
variable {h:AH} {r tk:Nat} {L:List Tok} {en:Int} {rv:AV} {M:Nat->Prop} {R:AE->AH->Prop} {p:Nat}
theorem DH(hM:M r)(hL:L.length<=65536)(hD:Hf L)(hT:∀t∈L,t.text.size<=65536)(hr:h.obj r=some (m_ tk L.length p en rv))(ht:h.obj tk=some (kS L))
  (hR:rJ (bY L en p) (fun n=>∀h',Fr h h' (·=r)->h'.obj r=some (m_ tk L.length (p+1:Nat) en rv)->R (.ret (.sc (.int .i64 n))) h') (fun e=>∀h',Fr h h' (·=r)->R (.bW (d_ e)) h')) :
  aA Pg 57 [.ptr r 0] h M R:=by
 have jJ:=h.lt _ _ hr
 have tK:=h.lt _ _ ht
 apply tp.calls
 unfold bY at hR
 have tail:∀(t:Tok)(tm:Nat->AV)(tc:Nat)(h1:AH),dF L en p (gh L p)=.ok t->tm 3=.ptr tc 0->h1.obj tc=some (vE t)->h.next<=tc->Fr h h1 (·=r)->h1.obj r=some (m_ tk L.length (p+1:Nat) en rv)->tp.cZ (fun id=>M id\/h.next<=id) (Ab.bQ Pg [.tmp 2] R) (Ab.aW R) ⟨tm,[]⟩ h1:=by
  intro t tm tc h1 hx h3 hc QH hf zj
  rw[hx]at hR
  have gA:t∈L/\t.kind=2:=by
   unfold dF gh at hx
   cases hg:L[p]? with
   |none=>rw[hg]at hx;cases hx
   |some t'=>
    rw[hg]at hx
    simp only at hx
    split at hx
    ·cases hx;exact⟨zP hg,by simp_all⟩
    ·cases hx
  refine Pe (t:=t) (fun id hid=>.inr (zR hf.next hid)) (hT _ gA.1) (hD _ gA.1 gA.2) h3 hc ?_
  cases hv:jP t.text.data.toList 0 with
  |none=>
   simp only[hv]at hR
   intro h' mK
   simp
   exact hR _ (hf.trans (mK.mono fun _ h=>h.elim))
  |some n=>
   simp only[hv]at hR
   intro dY h' e2 mK
   simp[e2]
   exact hR _ (hf.trans (mK.mono fun _ h=>h.elim)) (mK.obj zj (fun h=>h))
 have he:∀e,dF L en p (gh L p)=.error e->∀h',Fr h h' (·=r)->R (.bW (d_ e)) h':=by
  intro e hx;rw[hx]at hR;exact hR
 have A1:∀(dR:AV->AV->Nat->AV),(∀a b,dR a b 3=b)->aq Pg (fun id=>M id\/h.next<=id) 55 [.ptr r 0,.sc (.bool (gh L p))] h (fun t44 rS=>bx (some [.int .i64 0,.string ⟨#[]⟩,.int .i64 0]) 3 84 rS fun t46 wK=>
   aD (some 3) t46 t44 wK (fun id=>M id\/h.next<=id) fun qa=>tp.cZ (fun id=>M id\/h.next<=id) (Ab.bQ Pg [.tmp 2] R) (Ab.aW R) ⟨dR t44 t46,[]⟩ qa) (Ab.aW R []):=by
  intro dR iN
  refine⟨(·=r),fun _ h _=>h ▸ .inl hM,st rfl hL hr ht ?_⟩
  cases hx:dF L en p (gh L p) with
  |error e=>intro h' h1;exact⟨rfl,he e hx h' h1⟩
  |ok t=>
   intro h' h1 h2
   have h3:=h1.next
   have h4:=h'.lt _ _ h2
   simp[-tp.cZ,Tok.enc,AH.da,h3]
   refine tail t _ h'.next _ hx (by rw[iN]) (by simp[AH.cg,AH.da]) h3 ((h1.alloc _).put (.inr h3)) (by simp[AH.cg,AH.da,nK h4,h2])
 have A2:∀(dR:AV->AV->Nat->AV),(∀a b,dR a b 3=b)->bx (some [.int .i64 0,.string ⟨#[]⟩,.int .i64 0]) 3 84 h fun t49 tV=>aq Pg (fun id=>M id\/h.next<=id) 55 [.ptr r 0,.sc (.bool (gh L p))] tV (fun t51 pb=>
   aD (some 3) t49 t51 pb (fun id=>M id\/h.next<=id) fun tU=>tp.cZ (fun id=>M id\/h.next<=id) (Ab.bQ Pg [.tmp 2] R) (Ab.aW R) ⟨dR t51 t49,[]⟩ tU) (Ab.aW R []):=by
  intro dR iN
  simp only[aV]
  refine⟨rfl,(·=r),fun _ h _=>h ▸ .inl hM,st rfl hL (p:=p) (L:=L) (tk:=tk) (en:=en) (rv:=rv) (by rw[AH.dM jJ];exact hr) (by rw[AH.dM tK];exact ht) ?_⟩
  have hf:=(Fr.refl (h:=h) (S:=(·=r))).alloc (aP ([.int .i64 0,.string ⟨#[]⟩,.int .i64 0].map .sc) 3 84)
  cases hx:dF L en p (gh L p) with
  |error e=>intro h' h1;exact⟨rfl,he e hx h' (hf.trans (h1.mono fun _ h=>.inl h))⟩
  |ok t=>
   intro h' h1 h2
   have h3:=h1.obj (AH.b_ _ _) (nK jJ).2.1
   have h4:=h1.next
   simp only[AH.cm]at h4
   simp[-tp.cZ,Tok.enc,h3]
   refine tail t _ h.next _ hx (by rw[iN]) (by simp[AH.cg,h3]) (zU _) ((hf.trans (h1.mono fun _ h=>.inl h)).put (.inr (zU _))) (by simp[AH.cg,nK jJ,h2])
 by_cases aL:p<L.length
 ·by_cases hk:L[p].kind=2
  ·have hw:gh L p=true:=by simp[gh,aL,hk]
   simp only[hw]at A1 A2
   simp[-tp.cZ,-aV,-aE,hr,ht,aL,eT Tok.bu,ep Tok.bu,Tok.enc,hk]
   exact⟨A1 _ (fun _ _=>by simp),A2 _ (fun _ _=>by simp)⟩
  ·have hw:gh L p=false:=by simp[gh,aL,hk]
   have Lo:(L[p].kind==2)=false:=by simpa using hk
   simp only[hw]at A1 A2
   simp[-tp.cZ,-aV,-aE,hr,ht,aL,eT Tok.bu,ep Tok.bu,Tok.enc,Lo]
   exact⟨A1 _ (fun _ _=>by simp),A2 _ (fun _ _=>by simp)⟩
 ·have hw:gh L p=false:=by simp[gh,aL]
  simp only[hw]at A1 A2
  simp[-tp.cZ,-aV,-aE,hr,aL]
  exact⟨A1 _ (fun _ _=>by simp),A2 _ (fun _ _=>by simp)⟩
end
end
section
open Go.Ab
def Arg.enc(a:Arg):List AV:=[.sc (.string a.name),.sc (.int .i64 a.index)]
theorem Arg.bu(a:Arg):a.enc.length=2:=rfl
theorem Arg.hZ(a:Arg):a.enc.all cR=true:=rfl
theorem V2:mS Pg 92=some true:=by kernel_rfl
theorem To:gG Pg 92=some 2:=by kernel_rfl
abbrev xE(a:Arg):AO:=aP [.sc (.string a.name),.sc (.int .i64 a.index)] 2 92
section
variable {h:AH} {r tk:Nat} {L:List Tok} {en:Int} {rv:AV} {M:Nat->Prop} {R:AE->AH->Prop} {p:Nat}
theorem qJ(hM:M r)(hL:L.length<=65536)(hp:p<=L.length)(hD:Hf L)(hT:∀t∈L,t.text.size<=65536)(hr:h.obj r=some (m_ tk L.length p en rv))(ht:h.obj tk=some (kS L))
  (hR:rJ (dX L en p) (fun x=>∀h',Fr h h' (·=r)->h'.obj r=some (m_ tk L.length x.2 en rv)->R (.ret (.agg x.1.enc)) h') (fun e=>∀h',Fr h h' (·=r)->R (.bW (d_ e)) h')) :
  aA Pg 61 [.ptr r 0] h M R:=by
 have jJ:=h.lt _ _ hr
 have tK:=h.lt _ _ ht
 apply ry.calls
 unfold dX at hR
 have QC:=(Fr.refl (h:=h) (S:=(·=r))).alloc (aP [.sc (.string ⟨#[]⟩),.sc (.int .i64 0)] 2 92)
 have tail:∀(tm:Nat->AV)(h1:AH)(a:Nat)(x:Arg)(q:Nat),tm 2=.ptr h.next 0->tm 3=.ptr a 0->h1.obj a=some (xE x)->(∃c1 c2,h1.obj h.next=some (aP [c1,c2] 2 92))->Fr h h1 (·=r)->h1.obj r=some (m_ tk L.length q en rv) ->
   (∀h',Fr h h' (·=r)->h'.obj r=some (m_ tk L.length q en rv)->R (.ret (.agg x.enc)) h')->ry.k1 (fun id=>M id\/h.next<=id) (Ab.bQ Pg [.cell 2 92] R) (Ab.aW R) ⟨tm,[]⟩ h1:=by
  intro tm h1 a x q e2 e3 ha ⟨c1,c2,hq⟩ hf zj hR
  simp[e2,e3,ha,hq,V2,To,AH.cg]
  exact hR _ (hf.put (.inr (zU _))) (by rw[AH.lr (nK jJ).1];exact zj)
 simp only[ry.k8,ry.k7,aV]
 refine⟨rfl,?_⟩
 simp only[List.map_cons,List.map_nil,ag,fF,s0]
 simp[-ry.k6]
 refine⟨(·=r),fun _ h _=>h ▸ .inl hM,C5 rfl hL (p:=p) (L:=L) (tk:=tk) (en:=en) (rv:=rv) (by rw[AH.dM jJ];exact hr) (by rw[AH.dM tK];exact ht) ?_⟩
 cases hn:cO L en p with
 |error e=>
  rw[hn]at hR
  intro h' h1
  exact⟨rfl,hR _ (QC.trans (h1.mono fun _ h=>.inl h))⟩
 |ok nm=>
  rw[hn]at hR
  have aL:p<L.length:=by
   unfold cO dF at hn
   cases hg:L[p]? with
   |none=>rw[hg]at hn;cases hn
   |some t=>exact(zM.1 hg).1
  intro h1 f1 r1
  have QV:=QC.trans (f1.mono fun _ h=>.inl h)
  have q1:=f1.obj (AH.b_ _ _) (nK jJ).2.1
  have n1:=f1.next
  simp only[AH.cm]at n1
  have t1:=QV.obj ht (bM ht hr (show(84:Nat)≠69 by decide))
  simp[-ry.k6,AH.da]
  have f2:=(QV.alloc (aP [.sc (.string ⟨#[]⟩),.sc (.int .i64 0)] 2 92)).put (id:=h1.next) (off:=0) (cs:=[.sc (.string nm),.sc (.int .i64 (-1))]) (.inr (by omega))
  have r2:((h1.alloc (aP [.sc (.string ⟨#[]⟩),.sc (.int .i64 0)] 2 92)).put h1.next 0 [.sc (.string nm),.sc (.int .i64 (-1))]).obj r=some (m_ tk L.length (p+1:Nat) en rv):=by
   have:=h1.lt _ _ r1
   simp[AH.cg,AH.da,nK this,r1]
  have a2:((h1.alloc (aP [.sc (.string ⟨#[]⟩),.sc (.int .i64 0)] 2 92)).put h1.next 0 [.sc (.string nm),.sc (.int .i64 (-1))]).obj h1.next=some (xE ⟨nm,-1⟩):=by simp[AH.cg,AH.da]
  have q2:((h1.alloc (aP [.sc (.string ⟨#[]⟩),.sc (.int .i64 0)] 2 92)).put h1.next 0 [.sc (.string nm),.sc (.int .i64 (-1))]).obj h.next=some (aP [.sc (.string ⟨#[]⟩),.sc (.int .i64 0)] 2 92):=by
   have:h.next<h1.next:=by omega
   simp[AH.cg,AH.da,nK this,q1]
  have t2:=f2.obj ht (bM ht hr (show(84:Nat)≠69 by decide))
  have an:h.next<h1.next:=by omega
  generalize (h1.alloc (aP [.sc (.string ⟨#[]⟩),.sc (.int .i64 0)] 2 92)).put h1.next 0 [.sc (.string nm),.sc (.int .i64 (-1))]=h2 at *
  generalize h1.next=a at *
  have an2:=h2.lt _ _ a2
  refine⟨.inr (by omega),?_⟩
  simp only[ry.k6,ag,fF]
  simp[-ry.k5]
  refine⟨fun _=>False,fun _ h=>h.elim,CZ r2 t2 ?_⟩
  cases gp:gE L (p+1) M6 with
  |false=>
   simp only[gp,zE,if_false]at hR
   simp[-ry.k1]
   exact tail _ _ a ⟨nm,-1⟩ _ (by simp) (by simp) a2 ⟨_,_,q2⟩ f2 r2 hR
  |true=>
   simp only[gp,zV]at hR
   have NM:p+1<L.length:=by
    unfold gE at gp
    cases hg:L[p+1]? with
    |none=>rw[hg]at gp;cases gp
    |some t=>exact(zM.1 hg).1
   have hw:IntKind.i64.wrap ((p:Int)+1+1)=((p+2:Nat):Int):=by rw[aR (by omega) (by omega)];omega
   simp[-ry.k3,r2,hM,hw]
   have f3:=f2.put (id:=r) (off:=1) (cs:=[.sc (.int .i64 ((p:Int)+2))]) (.inl rfl)
   have r3:(h2.put r 1 [.sc (.int .i64 ((p:Int)+2))]).obj r=some (m_ tk L.length (p+2:Nat) en rv):=by simp[AH.cg,r2]
   have a3:(h2.put r 1 [.sc (.int .i64 ((p:Int)+2))]).obj a=some (xE ⟨nm,-1⟩):=by rw[AH.lr (by omega)];exact a2
   have q3:(h2.put r 1 [.sc (.int .i64 ((p:Int)+2))]).obj h.next=some (aP [.sc (.string ⟨#[]⟩),.sc (.int .i64 0)] 2 92):=by rw[AH.lr (by omega)];exact q2
   have t3:=f3.obj ht (bM ht hr (show(84:Nat)≠69 by decide))
   generalize h2.put r 1 [.sc (.int .i64 ((p:Int)+2))]=h3 at *
   have an3:=h3.lt _ _ a3
   simp only[ry.k3,ag,fF]
   simp[-ry.k2]
   refine⟨(·=r),fun _ h _=>h ▸ .inl hM,DH rfl hL hD hT r3 t3 ?_⟩
   cases X3:bY L en (p+2) with
   |error e=>
    rw[X3]at hR
    intro h' h1
    exact⟨rfl,hR _ (f3.trans (h1.mono fun _ h=>.inl h))⟩
   |ok n=>
    rw[X3]at hR
    intro h4 f4 r4
    have a4:=f4.obj a3 (by omega)
    have q4:=f4.obj q3 (by omega)
    have Cj:=f3.trans (f4.mono fun _ h=>.inl h)
    simp[-ry.k2,a4]
    have f5:=Cj.put (id:=a) (off:=1) (cs:=[.sc (.int .i64 n)]) (.inr (by omega))
    have r5:(h4.put a 1 [.sc (.int .i64 n)]).obj r=some (m_ tk L.length (p+3:Nat) en rv):=by rw[AH.lr (by omega)];exact r4
    have a5:(h4.put a 1 [.sc (.int .i64 n)]).obj a=some (xE ⟨nm,n⟩):=by simp[AH.cg,a4]
    have q5:(h4.put a 1 [.sc (.int .i64 n)]).obj h.next=some (aP [.sc (.string ⟨#[]⟩),.sc (.int .i64 0)] 2 92):=by rw[AH.lr (by omega)];exact q4
    have t5:=f5.obj ht (bM ht hr (show(84:Nat)≠69 by decide))
    have BL:a<h4.next:=h4.lt _ _ a4
    refine⟨by omega,?_⟩
    generalize h4.put a 1 [.sc (.int .i64 n)]=h5 at *
    simp only[ry.k2,ag,fF]
    simp[-ry.k1]
    refine⟨(·=r),fun _ h _=>h ▸ .inl hM,CM rfl hL r5 t5 ?_⟩
    cases sO:eE L en (p+3) CP with
    |error e=>
     rw[sO]at hR
     intro h' h1
     exact⟨rfl,hR _ (f5.trans (h1.mono fun _ h=>.inl h))⟩
    |ok t=>
     rw[sO]at hR
     intro h6 f6 r6
     simp[-ry.k1]
     exact tail _ _ a ⟨nm,n⟩ _ (by simp) (by simp) (f6.obj a5 (by omega)) ⟨_,_,f6.obj q5 (by omega)⟩ (f5.trans (f6.mono fun _ h=>.inl h)) r6 hR
end
end
section
open Go.Ab
def az(x:Row×AV):List AV:=[.sc (.string x.1.kind),.sc (.string x.1.name),x.2,.sc (.int .i64 x.1.num),.sc (.int .i64 x.1.rows),.sc (.int .i64 x.1.place)]
theorem dT(x:Row×AV):(az x).length=6:=rfl
def fJ(h:AH)(x:AV)(rows:List Row):Prop:=∃l:List (Row×AV),cl az 6 87 h x l/\l.map (·.1)=rows/\∀y∈l,cl Arg.enc 2 92 h y.2 y.1.args
theorem fJ.fr{h h':AH}{S:Nat->Prop}{x:AV}{rows:List Row}(hr:fJ h x rows)(hf:Fr h h' S)(hx:∀id,x=.sl id 0 rows.length->¬S id)(ha:∀id o,h.obj id=some o->o.ty=92->¬S id):fJ h' x rows:=by
 obtain⟨l,h1,h2,h3⟩:=hr
 refine⟨l,h1.aU hf (fun id he=>hx id (by rw[he,<-h2];simp)),h2,fun y hy=>?_⟩
 rcases h3 y hy with h4 |⟨id,h4,ho⟩
 ·exact .inl h4
 ·exact .inr ⟨id,h4,hf.obj ho (ha id _ ho rfl)⟩
theorem fJ.nil{h:AH}:fJ h aQ []:=⟨[],.nil,rfl,by simp⟩
structure RS (h:AH) (r tk:Nat) (L:List Tok) (en:Int) (p:Nat) (rv:AV) (rows:List Row):Prop where
 r:h.obj r=some (m_ tk L.length p en rv)
 t:h.obj tk=some (kS L)
 rows:fJ h rv rows
theorem fJ.id{h:AH}{x:AV}{rows:List Row}(hr:fJ h x rows){id off n:Nat}(hx:x=.sl id off n):off=0/\n=rows.length/\∃o,h.obj id=some o/\o.ty=87:=by
 obtain⟨l,h1,h2,h3⟩:=hr
 rcases h1 with⟨h4,_⟩ |⟨mm,h4,ho⟩
 ·rw[h4]at hx;cases hx
 ·rw[h4]at hx;cases hx;exact⟨rfl,by rw[<-h2];simp,_,ho,rfl⟩
theorem RS.step{h h':AH}{r tk:Nat}{L:List Tok}{en:Int}{p p':Nat}{rv:AV}{rows:List Row}(hs:RS h r tk L en p rv rows)(hf:Fr h h' (·=r))(hr:h'.obj r=some (m_ tk L.length p' en rv)):RS h' r tk L en p' rv rows:=by
 refine⟨hr,hf.obj hs.t (bM hs.t hs.r (show(84:Nat)≠69 by decide)),hs.rows.fr hf (fun id he hid=>?_) (fun id o ho kA hid=>?_)⟩
 ·obtain⟨_,_,o,ho,kA⟩:=hs.rows.id he
  exact bM ho hs.r (by rw[kA];show(87:Nat)≠69;decide) hid
 ·exact bM ho hs.r (by rw[kA];show(92:Nat)≠69;decide) hid
theorem RS.still{h h':AH}{r tk:Nat}{L:List Tok}{en:Int}{p:Nat}{rv:AV}{rows:List Row}(hs:RS h r tk L en p rv rows){v:Nat}(hf:Fr h h' (·=v))(hv:v≠r)(ng:∀id,rv=.sl id 0 rows.length->id≠v)(kA:∀o,h.obj v=some o->o.ty≠84/\o.ty≠92):RS h' r tk L en p rv rows:=by
 refine⟨hf.obj hs.r (Ne.symm hv),hf.obj hs.t (fun e=>(kA _ (e ▸ hs.t)).1 rfl),hs.rows.fr hf ng (fun id o ho ht hid=>?_)⟩
 subst hid
 exact(kA _ ho).2 ht
def SS(r:Nat)(rv:AV)(id:Nat):Prop:=id=r\/∃n,rv=.sl id 0 n
theorem RS.ng{h:AH}{r tk:Nat}{L:List Tok}{en:Int}{p:Nat}{rv:AV}{rows:List Row}(hs:RS h r tk L en p rv rows):∀{id off n},rv=.sl id off n->off=0/\n=rows.length/\id<h.next:=by
 intro id off n he
 obtain⟨a,b,o,ho,_⟩:=hs.rows.id he
 exact⟨a,b,h.lt _ _ ho⟩
theorem fJ.len{h:AH}{x:AV}{rows:List Row}(hr:fJ h x rows):(aY x=false)/\∀K,bL x K=K (.sc (.int .i64 rows.length)):=by
 obtain⟨l,h1,h2,h3⟩:=hr
 have:rows.length=l.length:=by rw[<-h2];simp
 rw[this]
 exact⟨(h1.len (K:=fun _=>True)).1,fun K=>(h1.len (K:=K)).2⟩
def V6(h:AH)(r tk:Nat)(L:List Tok)(en:Int)(rv:AV)(rows:List Row)(ret:Nat×List Row->AH->Prop)(bW:AV->AH->Prop)(res:dq (Nat×List Row)):Prop:=
 rJ res (fun x=>∀h' iT,RS h' r tk L en x.1 iT (rows++x.2)->Fr h h' (SS r rv)->dC (fun id=>SS r rv id\/h.next<=id) iT->ret x h') (fun e=>∀h',Fr h h' (SS r rv)->bW (d_ e) h')
structure iB (L:List Tok):Prop where
 len:L.length<=65536
 GL:Hf L
 Ht:∀t∈L,t.text.size<=65536
def G7(L:List Tok)(en:Int)(k:Nat):Prop:=∀{h:AH}{r tk:Nat}{rv:AV}{rows:List Row}{M:Nat->Prop}{R:AE->AH->Prop}{p:Nat}{d:Int},d=32-(k:Int)->(∀id,SS r rv id->M id)->RS h r tk L en p rv rows->p<=L.length->rows.length<=p ->
 V6 h r tk L en rv rows (fun _ h'=>R (.ret (.dD [])) h') (fun v h'=>R (.bW v) h') (fm L en k p)->aA Pg 21 [.ptr r 0,.sc (.int .i64 d)] h M R
def rA(L:List Tok)(en:Int)(k:Nat):Prop:=∀{h:AH}{r tk:Nat}{rv:AV}{rows:List Row}{M:Nat->Prop}{R:AE->AH->Prop}{p:Nat}{d:Int},d=33-(k:Int)->(∀id,SS r rv id->M id)->RS h r tk L en p rv rows->p<=L.length->rows.length<=p ->
 V6 h r tk L en rv rows (fun x h'=>R (.ret (.sc (.int .i64 x.2.length))) h') (fun v h'=>R (.bW v) h') (lT L en k (fA L en k) p)->aA Pg 60 [.ptr r 0,.sc (.int .i64 d)] h M R
theorem oE{h h1 h2:AH}{r:Nat}{rv HC:AV}(a:Fr h h1 (SS r rv))(hi:dC (fun id=>SS r rv id\/h.next<=id) HC)(b:Fr h1 h2 (SS r HC)):Fr h h2 (SS r rv):=
 a.trans (b.mono fun id hs=>by
  rcases hs with hs |⟨n,hn⟩
  ·exact .inl (.inl hs)
  ·exact hi id 0 n hn)
theorem xL{h h1:AH}{r:Nat}{rv HC qZ:AV}(hn:h.next<=h1.next)(hi:dC (fun id=>SS r rv id\/h.next<=id) HC)(hi2:dC (fun id=>SS r HC id\/h1.next<=id) qZ)(h2:∀{id off n},HC=.sl id off n->off=0):dC (fun id=>SS r rv id\/h.next<=id) qZ:=by
 intro id off n he
 rcases hi2 id off n he with(h3 |⟨m,h3⟩) |h3
 ·exact .inl (.inl h3)
 ·exact hi id 0 m h3
 ·exact .inr (zR hn h3)
section
variable {L:List Tok} {en:Int}
theorem Im{k:Nat}(hL:iB L)(hs:∀k',k=k'+1->G7 L en k'):rA L en k:=by
 intro h r tk rv rows M R p d hd hM gS hp XX hR
 have jJ:=h.lt _ _ gS.r
 have tK:=h.lt _ _ gS.t
 have rR:=hM r (.inl rfl)
 have nl:=hL.len
 apply tn.calls
 unfold lT at hR
 simp only[tn.dB,tn.cZ]
 simp[-tn.k9]
 refine⟨(·=r),fun _ h _=>h ▸ .inl rR,CM rfl hL.len gS.r gS.t ?_⟩
 cases sO:eE L en p lV with
 |error e=>
  rw[sO]at hR
  intro h' h1
  exact⟨rfl,hR _ (h1.mono fun _ h=>.inl h)⟩
 |ok t=>
  rw[sO]at hR
  have aL:=vp sO
  intro h1 f1 r1
  have jk:=gS.step f1 r1
  have n1:=f1.next
  simp[-tn.k9,Tok.enc,AH.da]
  refine⟨.inr n1,?_⟩
  have f2:=(((Fr.refl (h:=h1) (S:=(·=h1.next))).alloc (aP [.sc (.int .i64 0),.sc (.string ⟨#[]⟩),.sc (.int .i64 0)] 3 84))).put (id:=h1.next) (off:=0) (cs:=[.sc (.int .i64 t.kind),.sc (.string t.text),.sc (.int .i64 t.at_)]) (.inl rfl)
  have c2:((h1.alloc (aP [.sc (.int .i64 0),.sc (.string ⟨#[]⟩),.sc (.int .i64 0)] 3 84)).put h1.next 0 [.sc (.int .i64 t.kind),.sc (.string t.text),.sc (.int .i64 t.at_)]).obj h1.next=some (vE t):=by simp[AH.cg,AH.da]
  have Ww:∀o,h1.obj h1.next=some o->False:=fun o ho=>by have:=h1.lt _ _ ho;omega
  have eP:=jk.still f2 (nK (h1.lt _ _ r1)).2.1 (fun id he=>by have:=jk.ng he;omega) (fun o ho=>(Ww o ho).elim)
  have Gx:Fr h _ (SS r rv):=(f1.mono fun _ h=>.inl h).trans (f2.mono fun id (hid:id=h1.next)=>.inr (by omega))
  generalize (h1.alloc (aP [.sc (.int .i64 0),.sc (.string ⟨#[]⟩),.sc (.int .i64 0)] 3 84)).put h1.next 0 [.sc (.int .i64 t.kind),.sc (.string t.text),.sc (.int .i64 t.at_)]=h2 at *
  simp only[tn.k9,ag,fF]
  cases k with
  |zero=>
   have tQ:(32:Int)<d:=by omega
   simp[-tn.k7,tQ,c2]
   exact hR _ Gx
  |succ k=>
   have tQ:¬(32:Int)<d:=by omega
   simp only at hR
   simp[-tn.k6,tQ,eP.r,eP.rows.len.1,eP.rows.len.2]
   unfold tn.k6
   have WD:fA L en (k+1)=fm L en k:=rfl
   rw[WD]at hR
   generalize hX:fV L (fm L en k) (L.length+1) (p+1) []=X at hR
   refine gY (ι:=Nat×Nat×List Row) (fun x s' h'=>s'.ds=[]/\s'.tm 0=.ptr r 0/\s'.tm 1=.sc (.int .i64 d)/\s'.tm 6=.sc (.int .i64 rows.length)/\x.2.1<=L.length/\L.length<x.2.1+x.1/\(rows++x.2.2).length<=x.2.1 /\
    fV L (fm L en k) x.1 x.2.1 x.2.2=X /\
    ∃iT,RS h' r tk L en x.2.1 iT (rows++x.2.2)/\Fr h h' (SS r rv)/\dC (fun id=>SS r rv id\/h.next<=id) iT) (fun x=>x.1) (L.length+1,p+1,[]) ?_ ?_
   ·refine⟨rfl,by simp,by simp,by simp,by simp;omega,by simp;omega,by simp;omega,hX,rv,by simpa using eP,Gx,fun id off n he=>?_⟩
    obtain⟨rfl,_,_⟩:=gS.ng he
    exact .inl (.inr ⟨n,he⟩)
   rintro⟨n,q,acc⟩ ⟨tm,ds⟩ h' ⟨rfl,e0,e1,e6,hq,uT,hlen,oD,iT,lN,QU,wB⟩
   simp only at e0 e1 e6 hq uT hlen oD lN
   rw[tn.l1]
   cases n with
   |zero=>omega
   |succ n=>
    simp only[fV]at oD
    simp only[tn.k5,e0]
    refine⟨fun _=>False,fun _ h=>h.elim,CZ lN.r lN.t ?_⟩
    cases gp:gE L q Eo with
    |true=>
     simp only[gp,zV]at oD
     rw[<-oD]at hR
     have hw:IntKind.i64.wrap ((q:Int)+1)=(q:Int)+1:=aR (by omega) (by omega)
     have yQ:=hlen
     rw[List.length_append]at yQ
     have XQ:IntKind.i64.wrap (((rows++acc).length:Int)-rows.length)=acc.length:=by rw[List.length_append,aR (by omega) (by omega)];omega
     have f3:=(Fr.refl (h:=h') (S:=(·=r))).put (id:=r) (off:=1) (cs:=[.sc (.int .i64 ((q:Int)+1))]) (.inl rfl)
     have mE:=lN.step (p':=q+1) f3 (by simp[AH.cg,lN.r])
     have fr3:=oE QU wB (f3.mono fun _ h=>.inl h)
     simp[-tn.k1,e0,lN.r,rR,hw]
     generalize h'.put r 1 [.sc (.int .i64 ((q:Int)+1))]=h3 at *
     simp only[List.length_append,Int.natCast_add]at XQ
     simp[e6,e0,mE.r,mE.rows.len.1,mE.rows.len.2,XQ]
     exact hR _ _ mE fr3 wB
    |false=>
     simp only[gp,zE,if_false]at oD
     simp only[dA,tn.k4,tn.k3,ag,fF,zT,zV,al]
     simp only[Nat.reduceEqDiff,if_false,zV,e0,e1,zF,zC,zI,zD]
     refine⟨SS r iT,fun id hid _=>?_,hs k rfl (rv:=iT) (rows:=rows++acc) (p:=q) (by omega) (fun _ h=>h) lN hq hlen ?_⟩
     ·rcases hid with hid |⟨m,hid⟩
      ·exact hid ▸ .inl rR
      ·rcases wB id 0 m hid with h4 |h4
       ·exact .inl (hM _ h4)
       ·exact .inr h4
     cases ig:fm L en k q with
     |error e=>
      rw[ig]at oD
      rw[<-oD]at hR
      intro h4 f4
      exact⟨rfl,hR _ (oE QU wB f4)⟩
     |ok x=>
      obtain⟨q2,new⟩:=x
      rw[ig]at oD
      simp only at oD
      obtain⟨b1,b2,b3⟩:=sD k q q2 new ig
      intro h4 HB Dv f4 K9
      simp only[bJ]
      refine⟨(n,q2,acc++new),by simp,trivial,by simp[e0],by simp[e1],by simp[e6],b2,by simp;omega,by simp at hlen ⊢;omega,oD,HB,by simpa using Dv,oE QU wB f4,xL QU.next wB K9 (fun he=>(lN.ng he).1)⟩
end
end
section
open Go.Ab
structure SI (h0 h:AH) (r tk:Nat) (L:List Tok) (en:Int) (bG:AV) (aI:List Row) (v p:Nat) (rv:AV) (d0:Row) (inner:List Row) (cells:List AV):Prop where
 fr:Fr h0 h (SS r bG)
 rs:RS h r tk L en p rv (aI++d0::inner)
 ins:dC (fun id=>h0.next<=id/\id≠v) rv
 vo:h.obj v=some (aP cells 6 87)
 vn:h0.next<=v
 rn:r<h0.next
section
variable {h0 h h':AH} {r tk:Nat} {L:List Tok} {en:Int} {bG:AV} {aI:List Row} {v p:Nat} {rv:AV} {d0:Row} {inner:List Row} {cells:List AV}
theorem SI.vr(s:SI h0 h r tk L en bG aI v p rv d0 inner cells):v≠r:=by have:=s.vn;have:=s.rn;omega
theorem SI.call(s:SI h0 h r tk L en bG aI v p rv d0 inner cells){p':Nat}(hf:Fr h h' (·=r))(hr:h'.obj r=some (m_ tk L.length p' en rv)):SI h0 h' r tk L en bG aI v p' rv d0 inner cells:=
 ⟨s.fr.trans (hf.mono fun _ h=>.inl (.inl h)),s.rs.step hf hr,s.ins,hf.obj s.vo s.vr,s.vn,s.rn⟩
theorem SI.quiet(s:SI h0 h r tk L en bG aI v p rv d0 inner cells)(hf:Fr h h' (fun _=>False)):SI h0 h' r tk L en bG aI v p rv d0 inner cells:=
 s.call (hf.mono fun _ h=>h.elim) (hf.obj s.rs.r fun h=>h)
theorem SI.set(s:SI h0 h r tk L en bG aI v p rv d0 inner cells)(off:Nat)(cs:List AV):SI h0 (h.put v off cs) r tk L en bG aI v p rv d0 inner (bt cells off cs):=by
 have f:Fr h (h.put v off cs) (·=v):=Fr.refl.put (.inl rfl)
 refine⟨s.fr.trans (f.mono fun id (hid:id=v)=>.inr (hid ▸ s.vn)),s.rs.still f s.vr (fun id he=>(s.ins id 0 _ he).2) ?_,s.ins,js s.vo,s.vn,s.rn⟩
 intro o ho
 rw[s.vo]at ho;cases ho
 exact⟨show(87:Nat)≠84 by decide,show(87:Nat)≠92 by decide⟩
theorem SI.body(s:SI h0 h r tk L en bG aI v p rv d0 inner cells){p':Nat}{iT:AV}{new:List Row}(gS:RS h' r tk L en p' iT ((aI++d0::inner)++new))(hf:Fr h h' (SS r rv))(hi:dC (fun id=>SS r rv id\/h.next<=id) iT) :
  SI h0 h' r tk L en bG aI v p' iT d0 (inner++new) cells:=by
 have hv:¬SS r rv v:=by
  rintro(h1 |⟨n,h1⟩)
  ·exact s.vr h1
  ·exact(s.ins v 0 n h1).2 rfl
 have nO:=h.lt _ _ s.vo
 refine⟨s.fr.trans (hf.mono fun id hid=>?_),by simpa using gS,fun id off n he=>?_,hf.obj s.vo hv,s.vn,s.rn⟩
 ·rcases hid with h1 |⟨n,h1⟩
  ·exact .inl (.inl h1)
  ·exact .inr (s.ins id 0 n h1).1
 ·have h0:=(gS.ng he).1
  rcases hi id off n he with(h1 |⟨m,h1⟩) |h1
  ·obtain⟨_,_,o,ho,kA⟩:=gS.rows.id he
   exact(bM ho gS.r (by rw[kA];show(87:Nat)≠69;decide) h1).elim
  ·exact s.ins id 0 m h1
  ·exact⟨zR s.vn (by omega),by omega⟩
theorem ew{a:AV}{l:List Arg}(ha:cl Arg.enc 2 92 h a l){S:Nat->Prop}(hf:Fr h h' S)(hS:∀id o,h.obj id=some o->o.ty=92->¬S id):cl Arg.enc 2 92 h' a l:=by
 rcases ha with h1 |⟨id,h1,ho⟩
 ·exact .inl h1
 ·exact .inr ⟨id,h1,hf.obj ho (hS id _ ho rfl)⟩
theorem SI.nt(s:SI h0 h r tk L en bG aI v p rv d0 inner cells):∀id o,h.obj id=some o->o.ty=92->¬id=r:=fun id o ho ht=>bM ho s.rs.r (by rw[ht];show(92:Nat)≠69;decide)
theorem SI.qK(s:SI h0 h r tk L en bG aI v p rv d0 inner cells):∀id o,h.obj id=some o->o.ty=92->¬id=v:=fun id o ho ht=>bM ho s.vo (by rw[ht];show(92:Nat)≠87;decide)
theorem SI.GX(s:SI h0 h r tk L en bG aI v p rv d0 inner cells):∀id o,h.obj id=some o->o.ty=92->¬SS r rv id:=by
 rintro id o ho ht (h1 |⟨n,h1⟩)
 ·exact s.nt id o ho ht h1
 ·obtain⟨_,_,o',eu,kA⟩:=s.rs.rows.id h1
  exact bM ho eu (by rw[ht,kA];show(92:Nat)≠87;decide) rfl
end
section
variable {h0 h:AH} {r tk:Nat} {L:List Tok} {en:Int} {bG:AV} {aI:List Row} {v p:Nat} {rv:AV} {d0:Row} {inner:List Row} {M:Nat->Prop} {R:AE->AH->Prop} {tm:Nat->AV} {a:AV} {row:Row}
def Fin(h0:AH)(r tk:Nat)(L:List Tok)(en:Int)(bG:AV)(aI:List Row)(R:AE->AH->Prop)(res:dq (Nat×List Row)):Prop:=V6 h0 r tk L en bG aI (fun _ h'=>R (.ret (.dD [])) h') (fun v h'=>R (.bW v) h') res
theorem IE(s:SI h0 h r tk L en bG aI v p rv d0 inner (az (row,a)))(ha:cl Arg.enc 2 92 h a row.args)(e0:tm 0=.ptr r 0)(e5:tm 5=.ptr v 0)(e6:tm 6=.sc (.int .i64 aI.length))
  (hR:Fin h0 r tk L en bG aI R (.ok (p,row::inner))):dN.k1 (fun id=>M id\/h0.next<=id) (Ab.bQ Pg [] R) (Ab.aW R) ⟨tm,[]⟩ h:=by
 obtain⟨l,h1,h2,h3⟩:=s.rs.rows
 rcases h1 with⟨_,h1⟩ |⟨id,hid,ho⟩
 ·subst h1;simp at h2
 obtain⟨A,l2,rfl,hA,pY⟩:=List.map_eq_append_iff.1 h2
 obtain⟨x,B,rfl,hx,hB⟩:=List.map_eq_cons_iff.1 pY
 have Vf:A.length=aI.length:=by rw[<-hA];simp
 obtain⟨i1,i2⟩:=s.ins id 0 _ hid
 have NP:id≠r:=by have:=s.rn;omega
 have AD:=wv dT A B x (row,a)
 have aL:(aI.length:Int)<((A++x::B).length:Nat):=by simp;omega
 have NS:aI.length*6+6<=((A++x::B).flatMap az).length:=by rw[lZ dT];simp;omega
 rw[Vf]at AD
 have f1:Fr h (h.put id (aI.length*6) (az (row,a))) (·=id):=Fr.refl.put (.inl rfl)
 have o1:(h.put id (aI.length*6) (az (row,a))).obj id=some (aP ((A++(row,a)::B).flatMap az) 6 87):=by rw[js ho,AD]
 have jk:RS (h.put id (aI.length*6) (az (row,a))) r tk L en p rv (aI++row::inner):=by
  have ak:∀mm o,h.obj mm=some o->o.ty=92->¬mm=id:=fun mm o eu ht=>bM eu ho (by rw[ht];show(92:Nat)≠87;decide)
  refine⟨f1.obj s.rs.r (Ne.symm NP),f1.obj s.rs.t (bM s.rs.t ho (show(84:Nat)≠87 by decide)),A++(row,a)::B,.inr ⟨id,by rw[hid];simp,o1⟩,by simp[hA,hB],fun y hy=>?_⟩
  rcases List.mem_append.1 hy with hy |hy
  ·exact ew (h3 y (by simp[hy])) f1 ak
  ·rcases List.mem_cons.1 hy with hy |hy
   ·subst hy;exact ew ha f1 ak
   ·exact ew (h3 y (by simp[hy])) f1 ak
 have jv:=hR _ _ jk (s.fr.trans (f1.mono fun i (hi:i=id)=>.inr (hi ▸ i1))) (fun i off n he=>.inr (s.ins i off n he).1)
 have hv:=s.vo
 have hr:=s.rs.r
 simp only[dN.k1,e0,e5,e6,aC,aj,au,kU,hr,hv,ap,jX]
 simp only[zG,zB,zA,aa,hid,kN,aE,ho,bz,eL]
 have B1:(az (row,a)).length=6:=rfl
 refine⟨by simp[B1],⟨by omega,aL⟩,?_⟩
 rw[show List.drop 0 (az (row,a))=az (row,a) from rfl,List.take_of_length_le (by simp[B1])]
 rw[zY]
 exact⟨⟨.inr i1,by rcases ha with⟨rfl,_⟩ |⟨mm,rfl,_⟩<;>rfl,rfl,NS⟩,rfl,jv⟩
theorem WL(s:SI h0 h r tk L en bG aI v p rv d0 inner (az (row,a)))(hM:∀id,SS r bG id->M id):∀id,SS r rv id->M id\/h0.next<=id:=by
 rintro id (h1 |⟨n,h1⟩)
 ·exact .inl (hM _ (.inl h1))
 ·exact .inr (s.ins id 0 n h1).1
theorem wk(hL:iB L)(hM:∀id,SS r bG id->M id)(s:SI h0 h r tk L en bG aI v p rv d0 [] (az (row,a)))(ha:cl Arg.enc 2 92 h a row.args){dR:AV->Nat->AV}(e0:∀t,dR t 0=.ptr r 0)(e5:∀t,dR t 5=.ptr v 0)(e6:∀t,dR t 6=.sc (.int .i64 aI.length))
  (hR:Fin h0 r tk L en bG aI R (gg L en p row)) :
  aq Pg (fun id=>M id\/h0.next<=id) 58 [.ptr r 0,.sc (.string ⟨#[59]⟩)] h (fun t h'=>dN.k1 (fun id=>M id\/h0.next<=id) (Ab.bQ Pg [] R) (Ab.aW R) ⟨dR t,[]⟩ h') (Ab.aW R []):=by
 refine⟨(·=r),fun _ h _=>h ▸ .inl (hM r (.inl rfl)),CM rfl hL.len s.rs.r s.rs.t ?_⟩
 unfold gg at hR
 cases hs:eE L en p r8 with
 |error e=>
  rw[hs]at hR
  intro h' h1
  exact⟨rfl,hR _ (s.fr.trans (h1.mono fun _ h=>.inl (.inl h)))⟩
 |ok t=>
  rw[hs]at hR
  intro h' f1 r1
  exact IE (s.call f1 r1) (ew ha f1 s.nt) (e0 _) (e5 _) (e6 _) hR
theorem AY{k:Nat}{d:Int}(hL:iB L)(hb:rA L en k)(hd:d=33-(k:Int))(hM:∀id,SS r bG id->M id)(s:SI h0 h r tk L en bG aI v p rv d0 [] (az (row,a)))(ha:cl Arg.enc 2 92 h a row.args)(hp:p<=L.length)(hlen:aI.length+1<=p)
  {dR:AV->AV->Nat->AV} (e0:∀t u,dR t u 0=.ptr r 0) (e5:∀t u,dR t u 5=.ptr v 0) (e6:∀t u,dR t u 6=.sc (.int .i64 aI.length))
  (hR:Fin h0 r tk L en bG aI R (iJ L en k (fA L en k) p row)) :
  aq Pg (fun id=>M id\/h0.next<=id) 60 [.ptr r 0,.sc (.int .i64 d)] h (fun t h'=>ah (some 4) (.ptr v 0) fun u=>aD (some 1) u t h' (fun id=>M id\/h0.next<=id) fun wR=>dN.k1 (fun id=>M id\/h0.next<=id) (Ab.bQ Pg [] R) (Ab.aW R) ⟨dR t u,[]⟩ wR) (Ab.aW R []):=by
 refine⟨SS r rv,fun id hid _=>WL s hM id hid,hb hd (fun _ h=>h) s.rs hp (by simp;omega) ?_⟩
 unfold iJ at hR
 cases hs:lT L en k (fA L en k) p with
 |error e=>
  rw[hs]at hR
  intro h' h1
  refine⟨rfl,hR _ (s.fr.trans (h1.mono fun id hid=>?_))⟩
  rcases hid with h2 |⟨n,h2⟩
  ·exact .inl (.inl h2)
  ·exact .inr (s.ins id 0 n h2).1
 |ok x=>
  obtain⟨p',new⟩:=x
  rw[hs]at hR
  intro h' iT lN f1 i1
  have s1:=s.body lN f1 i1
  have a1:=ew ha f1 s.GX
  have s2:=s1.set 4 [.sc (.int .i64 new.length)]
  have a2:=ew a1 (Fr.refl.put (h:=h') (S:=(·=v)) (id:=v) (off:=4) (cs:=[.sc (.int .i64 new.length)]) (.inl rfl)) s1.qK
  show ah (some 4) (.ptr v 0) _
  simp only[aj,aE,s1.vo,dt,bz]
  refine⟨⟨.inr s.vn,rfl,rfl,by simp[az]⟩,?_⟩
  exact IE (row:={ row with rows:=new.length }) s2 a2 (e0 _ _) (e5 _ _) (e6 _ _) hR
end
end
section
open Go.Ab
def fg(h:AH)(x:AV)(rows:List Row)(a:AV):Prop:=∃l:List (Row×AV),cl az 6 87 h x l/\l.map (·.1)=rows/\∀y∈l,cl Arg.enc 2 92 h y.2 y.1.args/\∀id off n uv n',a=.sl id off n->y.2≠.sl id uv n'
theorem fg.to{h:AH}{x:AV}{rows:List Row}{a:AV}(hr:fg h x rows a):fJ h x rows:=let ⟨l,h1,h2,h3⟩:=hr;⟨l,h1,h2,fun y hy=>(h3 y hy).1⟩
theorem fg.nil{h:AH}{x:AV}{rows:List Row}(hr:fJ h x rows):fg h x rows aQ:=let ⟨l,h1,h2,h3⟩:=hr;⟨l,h1,h2,fun y hy=>⟨h3 y hy,fun _ _ _ _ _ he=>by cases he⟩⟩
theorem fg.fr{h h':AH}{S:Nat->Prop}{x:AV}{rows:List Row}{a:AV}(hr:fg h x rows a)(hf:Fr h h' S)(hx:∀id,x=.sl id 0 rows.length->¬S id)(ha:∀id o,h.obj id=some o->o.ty=92->¬S id):fg h' x rows a:=by
 obtain⟨l,h1,h2,h3⟩:=hr
 exact⟨l,h1.aU hf (fun id he=>hx id (by rw[he,<-h2];simp)),h2,fun y hy=>⟨ew (h3 y hy).1 hf ha,(h3 y hy).2⟩⟩
section
variable {h0 h h':AH} {r tk:Nat} {L:List Tok} {en:Int} {bG:AV} {aI:List Row} {v p:Nat} {rv:AV} {d0:Row} {inner:List Row} {cells:List AV} {a y:AV} {acc:List Arg}
theorem fg.call(ra:fg h rv (aI++d0::inner) a)(s:SI h0 h r tk L en bG aI v p rv d0 inner cells)(hf:Fr h h' (·=r)):fg h' rv (aI++d0::inner) a:=
 ra.fr hf (fun id he hid=>by
  obtain⟨_,_,o,ho,kA⟩:=s.rs.rows.id he
  exact bM ho s.rs.r (by rw[kA];show(87:Nat)≠69;decide) hid) s.nt
theorem fg.set(ra:fg h rv (aI++d0::inner) a)(s:SI h0 h r tk L en bG aI v p rv d0 inner cells)(off:Nat)(cs:List AV):fg (h.put v off cs) rv (aI++d0::inner) a:=
 ra.fr (Fr.refl.put (S:=(·=v)) (.inl rfl)) (fun id he=>(s.ins id 0 _ he).2) s.qK
theorem SI.vh(s:SI h0 h r tk L en bG aI v p rv d0 inner cells)(ra:fg h rv (aI++d0::inner) a)(ha:cl Arg.enc 2 92 h a acc)(iF:dC (h0.next<=·) a)(hf:Fr h h' (fun i=>∃off n,a=.sl i off n))(hy:dC (h.next<=·) y) :
  SI h0 h' r tk L en bG aI v p rv d0 inner cells/\fg h' rv (aI++d0::inner) y:=by
 have VY:∀i,(∃off n,a=.sl i off n)->∃o,h.obj i=some o/\o.ty=92:=by
  rintro i ⟨off,n,he⟩
  rcases ha with⟨h1,_⟩ |⟨id,h1,ho⟩
  ·rw[h1]at he;cases he
  ·rw[h1]at he;cases he;exact⟨_,ho,rfl⟩
 have not:∀i o,h.obj i=some o->o.ty≠92->¬ ∃off n,a=.sl i off n:=fun i o ho dx he=>by
  obtain⟨o',eu,ht⟩:=VY i he
  rw[ho]at eu;cases eu;exact dx ht
 have Kh:fg h' rv (aI++d0::inner) y:=by
  obtain⟨l,h1,h2,h3⟩:=ra
  refine⟨l,h1.aU hf (fun id he=>?_),h2,fun z hz=>⟨?_,fun id off n uv n' he nk=>?_⟩⟩
  ·rcases h1 with⟨h4,_⟩ |⟨mm,h4,ho⟩
   ·rw[h4]at he;cases he
   ·rw[h4]at he;cases he;exact not _ _ ho (show(87:Nat)≠92 by decide)
  ·obtain⟨h4,h5⟩:=h3 z hz
   rcases h4 with h4 |⟨id,h4,ho⟩
   ·exact .inl h4
   ·refine .inr ⟨id,h4,hf.obj ho ?_⟩
    rintro⟨off,n,he⟩
    exact h5 id off n _ _ he h4
  ·have h6:=hy id off n he
   obtain⟨h4,_⟩:=h3 z hz
   rcases h4 with⟨h4,_⟩ |⟨mm,h4,ho⟩
   ·rw[h4]at nk;cases nk
   ·rw[h4]at nk;cases nk
    have:=h.lt _ _ ho
    omega
 refine⟨⟨s.fr.trans (hf.mono fun id hid=>?_),⟨hf.obj s.rs.r (not _ _ s.rs.r (show(69:Nat)≠92 by decide)),hf.obj s.rs.t (not _ _ s.rs.t (show(84:Nat)≠92 by decide)),Kh.to⟩,s.ins,hf.obj s.vo (not _ _ s.vo (show(87:Nat)≠92 by decide)),s.vn,s.rn⟩,Kh⟩
 obtain⟨off,n,he⟩:=hid
 exact .inr (iF id off n he)
end
section
variable {h0 h:AH} {r tk:Nat} {L:List Tok} {en:Int} {bG:AV} {aI:List Row} {v p:Nat} {rv:AV} {d0:Row} {inner:List Row} {cells:List AV} {M:Nat->Prop} {R:AE->AH->Prop}
theorem CL(hL:iB L)(hM:∀id,SS r bG id->M id)(s:SI h0 h r tk L en bG aI v p rv d0 inner cells)(hc:cells.length=6){C:KT}{dR:AV->AV->Nat->AV}{off:Nat}(ho:off<6)
  (oL:∀e,cO L en p=.error e->∀h',Fr h0 h' (SS r bG)->R (.bW (d_ e)) h')
  (ed:∀nm,cO L en p=.ok nm->∀u h',SI h0 h' r tk L en bG aI v (p+1) rv d0 inner (bt cells off [.sc (.string nm)])->C ⟨dR (.sc (.string nm)) u,[]⟩ h') :
  aq Pg (fun id=>M id\/h0.next<=id) 56 [.ptr r 0] h (fun t h'=>ah (some off) (.ptr v 0) fun u=>aD (some 1) u t h' (fun id=>M id\/h0.next<=id) fun wR=>C ⟨dR t u,[]⟩ wR) (Ab.aW R []):=by
 refine⟨(·=r),fun _ h _=>h ▸ .inl (hM r (.inl rfl)),C5 rfl hL.len s.rs.r s.rs.t ?_⟩
 cases hs:cO L en p with
 |error e=>intro h' h1;exact⟨rfl,oL e hs _ (s.fr.trans (h1.mono fun _ h=>.inl (.inl h)))⟩
 |ok nm=>
  intro h' f1 r1
  have s1:=s.call f1 r1
  have s2:=s1.set off [.sc (.string nm)]
  show ah (some off) (.ptr v 0) _
  simp only[aj,aE,s1.vo,kQ,bz,zG]
  exact⟨⟨.inr s.vn,rfl,rfl,by omega⟩,ed nm hs _ _ s2⟩
theorem xh(hL:iB L)(hM:∀id,SS r bG id->M id)(s:SI h0 h r tk L en bG aI v p rv d0 inner cells)(hc:cells.length=6){C:KT}{dR:AV->AV->Nat->AV}{off:Nat}(ho:off<6)
  (oL:∀e,bY L en p=.error e->∀h',Fr h0 h' (SS r bG)->R (.bW (d_ e)) h')
  (ed:∀nm,bY L en p=.ok nm->∀u h',SI h0 h' r tk L en bG aI v (p+1) rv d0 inner (bt cells off [.sc (.int .i64 nm)])->C ⟨dR (.sc (.int .i64 nm)) u,[]⟩ h') :
  aq Pg (fun id=>M id\/h0.next<=id) 57 [.ptr r 0] h (fun t h'=>ah (some off) (.ptr v 0) fun u=>aD (some 1) u t h' (fun id=>M id\/h0.next<=id) fun wR=>C ⟨dR t u,[]⟩ wR) (Ab.aW R []):=by
 refine⟨(·=r),fun _ h _=>h ▸ .inl (hM r (.inl rfl)),DH rfl hL.len hL.GL hL.Ht s.rs.r s.rs.t ?_⟩
 cases hs:bY L en p with
 |error e=>intro h' h1;exact⟨rfl,oL e hs _ (s.fr.trans (h1.mono fun _ h=>.inl (.inl h)))⟩
 |ok nm=>
  intro h' f1 r1
  have s1:=s.call f1 r1
  have s2:=s1.set off [.sc (.int .i64 nm)]
  show ah (some off) (.ptr v 0) _
  simp only[aj,aE,s1.vo,dt,bz,zG]
  exact⟨⟨.inr s.vn,rfl,rfl,by omega⟩,ed nm hs _ _ s2⟩
end
end
section
open Go.Ab
section
variable {h0 h:AH} {r tk:Nat} {L:List Tok} {en:Int} {bG:AV} {aI:List Row} {v p:Nat} {rv:AV} {d0:Row} {M:Nat->Prop} {R:AE->AH->Prop} {tm:Nat->AV}
structure TM (tm:Nat->AV) (r v:Nat) (d:Int) (n:Nat):Prop where
 e0:tm 0=.ptr r 0
 e1:tm 1=.sc (.int .i64 d)
 e5:tm 5=.ptr v 0
 e6:tm 6=.sc (.int .i64 n)
theorem TM.ag{tm:Nat->AV}{r v:Nat}{d:Int}{n:Nat}(t:TM tm r v d n):∀(l:List (Nat×AV)),(∀x∈l,6<x.1)->TM (ag tm l) r v d n
 |[],_=>t
 |x::l,h=>by
  have hx:=h x (by simp)
  exact TM.ag (tm:=Go.Ab.fF tm x.1 x.2) ⟨by rw[jF (by omega)];exact t.e0,by rw[jF (by omega)];exact t.e1,by rw[jF (by omega)];exact t.e5,by rw[jF (by omega)];exact t.e6⟩ l (fun y hy=>h y (by simp[hy]))
theorem Pm{d:Int}(hL:iB L)(hM:∀id,SS r bG id->M id){k:ByteArray}{pl:Int}(s:SI h0 h r tk L en bG aI v p rv d0 [] (az (⟨k,bZ,[],0,0,pl⟩,aQ)))(lM:TM tm r v d aI.length)
  (hR:Fin h0 r tk L en bG aI R (match cO L en p with |.error e=>.error e |.ok nm=>match bY L en (p+1) with |.error e=>.error e |.ok n=>gg L en (p+2) ⟨k,nm,[],n,0,pl⟩)) :
  dN.k4 (fun id=>M id\/h0.next<=id) (Ab.bQ Pg [] R) (Ab.aW R) ⟨tm,[]⟩ h:=by
 simp only[dN.k4,lM.e0,lM.e5]
 refine CL hL hM s rfl (dR:=fun t u=>ag tm [(73,.ptr r 0),(74,t),(75,u)]) (by decide) (fun e he=>?_) (fun nm hn u h1 s1=>?_)
 ·rw[he]at hR;exact hR
 rw[hn]at hR
 have t1:=lM.ag [(73,.ptr r 0),(74,.sc (.string nm)),(75,u)] (by simp)
 generalize ag tm [(73,.ptr r 0),(74,.sc (.string nm)),(75,u)]=fG at *
 simp only[dN.k3,t1.e0,t1.e5]
 refine xh hL hM s1 rfl (dR:=fun t u=>ag fG [(76,.ptr r 0),(77,t),(78,u)]) (by decide) (fun e he=>?_) (fun n hn u h2 s2=>?_)
 ·rw[he]at hR;exact hR
 rw[hn]at hR
 have t2:=t1.ag [(76,.ptr r 0),(77,.sc (.int .i64 n)),(78,u)] (by simp)
 generalize ag fG [(76,.ptr r 0),(77,.sc (.int .i64 n)),(78,u)]=c_ at *
 simp only[dN.k2,t2.e0]
 have t3:=fun t=>t2.ag [(79,.ptr r 0),(80,t)] (by simp)
 exact wk (row:=⟨k,nm,[],n,0,pl⟩) (a:=aQ) hL hM s2 .nil (fun t=>(t3 t).e0) (fun t=>(t3 t).e5) (fun t=>(t3 t).e6) hR
theorem SV{d:Int}{kk:Nat}(hL:iB L)(hb:rA L en kk)(hd:d=32-(kk:Int))(fI:kk<=32)(hlen:aI.length+1<=p)(hM:∀id,SS r bG id->M id){k:ByteArray}{pl:Int}(s:SI h0 h r tk L en bG aI v p rv d0 [] (az (⟨k,bZ,[],0,0,pl⟩,aQ)))(lM:TM tm r v d aI.length)
  (hR:Fin h0 r tk L en bG aI R (match bY L en p with |.error e=>.error e |.ok n=>iJ L en kk (fA L en kk) (p+1) ⟨k,bZ,[],n,0,pl⟩)) :
  dN.eU (fun id=>M id\/h0.next<=id) (Ab.bQ Pg [] R) (Ab.aW R) ⟨tm,[]⟩ h:=by
 simp only[dN.eU,lM.e0,lM.e5]
 refine xh hL hM s rfl (dR:=fun t u=>ag tm [(103,.ptr r 0),(104,t),(105,u)]) (by decide) (fun e he=>?_) (fun n hn u h2 s2=>?_)
 ·rw[he]at hR;exact hR
 rw[hn]at hR
 have aL:=vF hn
 have t2:=lM.ag [(103,.ptr r 0),(104,.sc (.int .i64 n)),(105,u)] (by simp)
 generalize ag tm [(103,.ptr r 0),(104,.sc (.int .i64 n)),(105,u)]=c_ at *
 have hw:IntKind.i64.wrap (d+1)=d+1:=aR (by omega) (by omega)
 simp only[dN.dB,t2.e0,t2.e1,t2.e5,aZ,hw]
 have t3:=fun t u=>t2.ag [(106,.ptr r 0),(107,.sc (.int .i64 d)),(108,.sc (.int .i64 (d+1))),(109,t),(110,u)] (by simp)
 exact AY (row:=⟨k,bZ,[],n,0,pl⟩) (a:=aQ) hL hb (by omega) hM s2 .nil (by omega) (by omega) (fun t u=>(t3 t u).e0) (fun t u=>(t3 t u).e5) (fun t u=>(t3 t u).e6) hR
theorem Wc{d:Int}{kk:Nat}(hL:iB L)(hb:rA L en kk)(hd:d=32-(kk:Int))(fI:kk<=32)(hlen:aI.length+1<=p)(hM:∀id,SS r bG id->M id){k:ByteArray}{pl:Int}(s:SI h0 h r tk L en bG aI v p rv d0 [] (az (⟨k,bZ,[],0,0,pl⟩,aQ)))(lM:TM tm r v d aI.length)
  (hR:Fin h0 r tk L en bG aI R (match cO L en p with |.error e=>.error e |.ok nm=>match bY L en (p+1) with |.error e=>.error e |.ok n=>iJ L en kk (fA L en kk) (p+2) ⟨k,nm,[],n,0,pl⟩)) :
  dN.iq (fun id=>M id\/h0.next<=id) (Ab.bQ Pg [] R) (Ab.aW R) ⟨tm,[]⟩ h:=by
 simp only[dN.iq,lM.e0,lM.e5]
 refine CL hL hM s rfl (dR:=fun t u=>ag tm [(113,.ptr r 0),(114,t),(115,u)]) (by decide) (fun e he=>?_) (fun nm hn u h1 s1=>?_)
 ·rw[he]at hR;exact hR
 rw[hn]at hR
 have t1:=lM.ag [(113,.ptr r 0),(114,.sc (.string nm)),(115,u)] (by simp)
 generalize ag tm [(113,.ptr r 0),(114,.sc (.string nm)),(115,u)]=fG at *
 simp only[dN.ir,t1.e0,t1.e5]
 refine xh hL hM s1 rfl (dR:=fun t u=>ag fG [(116,.ptr r 0),(117,t),(118,u)]) (by decide) (fun e he=>?_) (fun n hn u h2 s2=>?_)
 ·rw[he]at hR;exact hR
 rw[hn]at hR
 have aL:=vF hn
 have t2:=t1.ag [(116,.ptr r 0),(117,.sc (.int .i64 n)),(118,u)] (by simp)
 generalize ag fG [(116,.ptr r 0),(117,.sc (.int .i64 n)),(118,u)]=c_ at *
 have hw:IntKind.i64.wrap (d+1)=d+1:=aR (by omega) (by omega)
 simp only[dN.fi,t2.e0,t2.e1,t2.e5,aZ,hw]
 have t3:=fun t u=>t2.ag [(119,.ptr r 0),(120,.sc (.int .i64 d)),(121,.sc (.int .i64 (d+1))),(122,t),(123,u)] (by simp)
 exact AY (row:=⟨k,nm,[],n,0,pl⟩) (a:=aQ) hL hb (by omega) hM s2 .nil (by omega) (by omega) (fun t u=>(t3 t u).e0) (fun t u=>(t3 t u).e5) (fun t u=>(t3 t u).e6) hR
end
end
section
open Go.Ab
theorem Ff{L:List Tok}{p:Nat}(h:ic L p=true):p<L.length:=by
 unfold ic at h
 cases hg:L[p]? with
 |none=>rw[hg]at h;cases h
 |some t=>exact(zM.1 hg).1
section
variable {h0 h:AH} {r tk:Nat} {L:List Tok} {en:Int} {bG:AV} {aI:List Row} {v p:Nat} {rv:AV} {d0:Row} {M:Nat->Prop} {R:AE->AH->Prop} {tm:Nat->AV}
theorem CK{inner:List Row}{k nm:ByteArray}{acc:List Arg}{pl:Int}{a:AV}{x:Arg}{W:Nat->Prop}{K:AV->AV->AH->Prop}(hW:∀id,h0.next<=id->W id)(s:SI h0 h r tk L en bG aI v p rv d0 inner (az (⟨k,nm,acc,0,0,pl⟩,a)))
  (ra:fg h rv (aI++d0::inner) a) (ha:cl Arg.enc 2 92 h a acc) (iF:dC (h0.next<=·) a) (hn:acc.length<=65536)
  (hK:∀v1 y h',SI h0 h' r tk L en bG aI v p rv d0 inner (az (⟨k,nm,acc++[x],0,0,pl⟩,y))->fg h' rv (aI++d0::inner) y->cl Arg.enc 2 92 h' y (acc++[x])->dC (h0.next<=·) y->K v1 y h') :
  dG (some (2,92,[.string ⟨#[]⟩,.int .i64 0])) 1 [(0,.agg x.enc)] h fun v1 h4=>fE (some (2,24,92)) a v1 h4 W fun y h5=>aD (some 1) (.ptr v 2) y h5 W fun h6=>K v1 y h6:=by
 refine Q8 (f:=Arg.enc) (K:=fun v1 y h5=>aD (some 1) (.ptr v 2) y h5 W fun h6=>K v1 y h6) Arg.bu (by decide) rfl Arg.hZ (by decide) ha (fun id off n he=>hW _ (iF id off n he)) (by omega) ?_
 intro v1 y h5 hy iy f5
 obtain⟨s5,TD⟩:=s.vh ra ha iF f5 iy
 obtain⟨id,hid⟩:=hy.sl (by simp)
 have Un:dC (h0.next<=·) y:=fun i off n he=>zR (zR s.vn (by have:=h.lt _ _ s.vo;omega)) (iy i off n he)
 have s6:=s5.set 2 [y]
 have wu:=TD.set s5 2 [y]
 have sL:=ew hy (Fr.refl.put (h:=h5) (S:=(·=v)) (id:=v) (off:=2) (cs:=[y]) (.inl rfl)) s5.qK
 subst hid
 simp only[aE,s5.vo,yq,bz]
 exact⟨⟨hW _ s.vn,rfl,rfl,by simp[az]⟩,hK _ _ _ s6 wu sL Un⟩
theorem Pp{d:Int}{kk:Nat}(hL:iB L)(hb:rA L en kk)(hd:d=32-(kk:Int))(fI:kk<=32)(hlen:aI.length+1<=p)(hM:∀id,SS r bG id->M id){k:ByteArray}{pl:Int}(s:SI h0 h r tk L en bG aI v p rv d0 [] (az (⟨k,bZ,[],0,0,pl⟩,aQ)))(lM:TM tm r v d aI.length)
  (hR:Fin h0 r tk L en bG aI R (match cO L en p with |.error e=>.error e |.ok nm=>match ie L en (L.length+1) (p+1) [] with |.error e=>.error e |.ok (l,p')=>iJ L en kk (fA L en kk) p' ⟨k,nm,l,0,0,pl⟩)) :
  dN.cZ (fun id=>M id\/h0.next<=id) (Ab.bQ Pg [] R) (Ab.aW R) ⟨tm,[]⟩ h:=by
 simp only[dN.cZ,lM.e0,lM.e5]
 refine CL hL hM s rfl (dR:=fun t u=>ag tm [(83,.ptr r 0),(84,t),(85,u)]) (by decide) (fun e he=>?_) (fun nm hn u h1 s1=>?_)
 ·rw[he]at hR;exact hR
 rw[hn]at hR
 have aL:=(na hn).1
 have t1:=lM.ag [(83,.ptr r 0),(84,.sc (.string nm)),(85,u)] (by simp)
 generalize ag tm [(83,.ptr r 0),(84,.sc (.string nm)),(85,u)]=fG at *
 unfold dN.k9
 simp only at hR
 generalize hX:ie L en (L.length+1) (p+1) []=X at hR
 have nl:=hL.len
 refine gY (ι:=Nat×Nat×List Arg) (fun x s' h'=>s'.ds=[]/\TM s'.tm r v d aI.length/\x.2.1<=L.length/\L.length<x.2.1+x.1/\x.2.2.length<=x.2.1/\aI.length+1<=x.2.1/\ie L en x.1 x.2.1 x.2.2=X /\
  ∃a,SI h0 h' r tk L en bG aI v x.2.1 rv d0 [] (az (⟨k,nm,x.2.2,0,0,pl⟩,a))/\fg h' rv (aI++d0::[]) a/\cl Arg.enc 2 92 h' a x.2.2/\dC (h0.next<=·) a) (fun x=>x.1) (L.length+1,p+1,[]) ?_ ?_
 ·exact⟨rfl,t1,by simp only;omega,by simp only;omega,by simp,by simp only;omega,hX,aQ,s1,.nil s1.rs.rows,.nil,fun _ _ _ he=>by cases he⟩
 rintro⟨n,q,acc⟩ ⟨c_,ds⟩ h2 ⟨rfl,t2,hq,uT,nW,X6,eN,a,s2,xn,ii,vO⟩
 simp only at t2 hq uT nW X6 eN s2 xn ii
 rw[dN.l1]
 cases n with
 |zero=>omega
 |succ n=>
  simp only[ie]at eN
  simp only[dN.k8,t2.e0]
  refine⟨fun _=>False,fun _ h=>h.elim,Au s2.rs.r s2.rs.t ?_⟩
  have t3:=fun b=>t2.ag [(86,.ptr r 0),(87,.sc (.bool b))] (by simp)
  cases iw:ic L q with
  |false=>
   simp only[iw,zE,if_false]at eN
   rw[<-eN]at hR
   have sY:ag c_ [(86,.ptr r 0),(87,.sc (.bool false))] 87=.sc (.bool false):=by simp
   have t4:=t3 false
   show dN.k7 _ _ _ ⟨ag c_ [(86,.ptr r 0),(87,.sc (.bool false))],[]⟩ h2
   generalize ag c_ [(86,.ptr r 0),(87,.sc (.bool false))]=h_ at *
   have hw:IntKind.i64.wrap (d+1)=d+1:=aR (by omega) (by omega)
   simp only[dN.k7,sY,al,zE,zC,zH,zD,bJ,df,zV]
   simp only[dN.k5,t4.e0,t4.e1,t4.e5,aZ,hw]
   have t5:=fun t u=>t4.ag [(96,.ptr r 0),(97,.sc (.int .i64 d)),(98,.sc (.int .i64 (d+1))),(99,t),(100,u)] (by simp)
   exact AY (row:=⟨k,nm,acc,0,0,pl⟩) (a:=a) hL hb (by omega) hM s2 ii hq X6 (fun t u=>(t5 t u).e0) (fun t u=>(t5 t u).e5) (fun t u=>(t5 t u).e6) hR
  |true=>
   simp only[iw,zV]at eN
   have sY:ag c_ [(86,.ptr r 0),(87,.sc (.bool true))] 87=.sc (.bool true):=by simp
   have t4:=t3 true
   show dN.k7 _ _ _ ⟨ag c_ [(86,.ptr r 0),(87,.sc (.bool true))],[]⟩ h2
   generalize ag c_ [(86,.ptr r 0),(87,.sc (.bool true))]=h_ at *
   simp only[dN.k7,sY,al,zF,zC,zI,zD]
   simp only[dN.k6]
   refine⟨fun _=>v,by simp[s2.vo],?_⟩
   simp only[t4.e5,t4.e0,aj,au,s2.vo,ap,zG]
   simp only[az,zB,zA,aa]
   refine⟨by simp,(·=r),fun id hid _=>?_,C5 rfl hL.len s2.rs.r s2.rs.t ?_⟩
   ·have:=s2.vr
    exact hid ▸ ⟨.inl (hM r (.inl rfl)),by simp;exact fun e=>this e.symm⟩
   cases hs:cO L en q with
   |error e=>
    rw[hs]at eN
    rw[<-eN]at hR
    intro h' f3
    exact⟨rfl,hR _ (s2.fr.trans (f3.mono fun _ h=>.inl (.inl h)))⟩
   |ok zc=>
    rw[hs]at eN
    simp only at eN
    intro h3 f3 r3
    have s3:=s2.call f3 r3
    have Fa:=xn.call s2 f3
    have wH:=ew ii f3 s2.nt
    have aay:=(na hs).1
    refine⟨Arg.enc ⟨zc,-1⟩,rfl,?_⟩
    show dG (some (2,92,[.string ⟨#[]⟩,.int .i64 0])) 1 [(0,.agg (Arg.enc ⟨zc,-1⟩))] h3 _
    refine CK (x:=⟨zc,-1⟩) (fun id hid=>Or.inr hid) s3 Fa wH vO (by omega) ?_
    intro v1 y h6 s6 wu sL DQ
    simp only[bJ]
    exact⟨(n,q+1,acc++[⟨zc,-1⟩]),by simp,trivial,t4.ag _ (by simp),by simp only;omega,by simp only;omega,by simp;omega,by simp only;omega,eN,y,s6,wu,sL,DQ⟩
theorem Pn{d:Int}(hL:iB L)(hM:∀id,SS r bG id->M id)(hp:p<=L.length){k:ByteArray}{pl:Int}(s:SI h0 h r tk L en bG aI v p rv d0 [] (az (⟨k,bZ,[],0,0,pl⟩,aQ)))(lM:TM tm r v d aI.length)
  (hR:Fin h0 r tk L en bG aI R (match dX L en p with |.error e=>.error e |.ok (a,p1)=>match dX L en p1 with |.error e=>.error e |.ok (b,p2)=>gg L en p2 ⟨k,bZ,[a,b],0,0,pl⟩)) :
  dN.jA (fun id=>M id\/h0.next<=id) (Ab.bQ Pg [] R) (Ab.aW R) ⟨tm,[]⟩ h:=by
 simp only[dN.jA]
 refine⟨fun _=>v,by simp[s.vo],?_⟩
 simp only[lM.e5,lM.e0,aj,au,s.vo,ap,zG]
 have hW:∀id,id=r->id<h.next->(M id\/h0.next<=id)/\∀i∈[1],id≠(fun _=>v) i:=fun id hid _=>by
  have:=s.vr
  exact hid ▸ ⟨.inl (hM r (.inl rfl)),by simp;exact fun e=>this e.symm⟩
 refine⟨by simp,(·=r),hW,qJ rfl hL.len hp hL.GL hL.Ht s.rs.r s.rs.t ?_⟩
 cases h1:dX L en p with
 |error e=>
  rw[h1]at hR
  intro h' f3
  exact⟨rfl,hR _ (s.fr.trans (f3.mono fun _ h=>.inl (.inl h)))⟩
 |ok x=>
  obtain⟨a,p1⟩:=x
  rw[h1]at hR
  simp only at hR
  intro h3 f3 r3
  have s3:=s.call f3 r3
  have b1:=j3 h1
  refine⟨(·=r),fun id hid aL=>?_,qJ rfl hL.len b1.2 hL.GL hL.Ht s3.rs.r s3.rs.t ?_⟩
  ·have:=s.vr
   exact hid ▸ ⟨.inl (hM r (.inl rfl)),by simp;exact fun e=>this e.symm⟩
  cases h2:dX L en p1 with
  |error e=>
   rw[h2]at hR
   intro h' f4
   exact⟨rfl,hR _ (s3.fr.trans (f4.mono fun _ h=>.inl (.inl h)))⟩
  |ok x=>
   obtain⟨b,p2⟩:=x
   rw[h2]at hR
   simp only at hR
   intro h4 f4 r4
   have s4:=s3.call f4 r4
   show dG (some (2,92,[.string ⟨#[]⟩,.int .i64 0,.string ⟨#[]⟩,.int .i64 0])) 2 [(0,.agg a.enc),(1,.agg b.enc)] h4 _
   refine W9 (f:=Arg.enc) Arg.bu (by decide) rfl Arg.hZ (by decide) ?_
   intro v1 y h5 hy iy f5
   have s5:=s4.quiet f5
   obtain⟨id,hid⟩:=hy.sl (by simp)
   have s6:=s5.set 2 [y]
   have sL:=ew hy (Fr.refl.put (h:=h5) (S:=(·=v)) (id:=v) (off:=2) (cs:=[y]) (.inl rfl)) s5.qK
   have ey:cJ y=some [y]:=by subst hid;rfl
   simp only[aE,s5.vo,ey,bz]
   refine⟨⟨.inr s.vn,by subst hid;rfl,rfl,by simp[az]⟩,?_⟩
   have t4:=lM.ag [(126,.ptr v 2),(127,aQ),(128,.ptr r 0),(130,.ptr r 0),(129,.agg a.enc),(131,.agg b.enc),(132,v1),(133,y),(134,.ptr v 2)] (by simp)
   show dN.hH _ _ _ ⟨ag tm [(126,.ptr v 2),(127,aQ),(128,.ptr r 0),(130,.ptr r 0),(129,.agg a.enc),(131,.agg b.enc),(132,v1),(133,y),(134,.ptr v 2)],[]⟩ _
   generalize ag tm [(126,.ptr v 2),(127,aQ),(128,.ptr r 0),(130,.ptr r 0),(129,.agg a.enc),(131,.agg b.enc),(132,v1),(133,y),(134,.ptr v 2)]=h_ at *
   simp only[dN.hH,t4.e0]
   have t5:=fun t=>t4.ag [(135,.ptr r 0),(136,t)] (by simp)
   exact wk (row:=⟨k,bZ,[a,b],0,0,pl⟩) (a:=y) hL hM s6 sL (fun t=>(t5 t).e0) (fun t=>(t5 t).e5) (fun t=>(t5 t).e6) hR
theorem Mq{d:Int}(hL:iB L)(hM:∀id,SS r bG id->M id)(hp:p<=L.length){k:ByteArray}{pl:Int}(s:SI h0 h r tk L en bG aI v p rv d0 [] (az (⟨k,bZ,[],0,0,pl⟩,aQ)))(lM:TM tm r v d aI.length)
  (hR:Fin h0 r tk L en bG aI R (match dX L en p with |.error e=>.error e |.ok (a,p1)=>gg L en p1 ⟨k,bZ,[a],0,0,pl⟩)) :
  dN.ml (fun id=>M id\/h0.next<=id) (Ab.bQ Pg [] R) (Ab.aW R) ⟨tm,[]⟩ h:=by
 simp only[dN.ml]
 refine⟨fun _=>v,by simp[s.vo],?_⟩
 simp only[lM.e5,lM.e0,aj,au,s.vo,ap,zG]
 refine⟨by simp,(·=r),fun id hid _=>?_,qJ rfl hL.len hp hL.GL hL.Ht s.rs.r s.rs.t ?_⟩
 ·have:=s.vr
  exact hid ▸ ⟨.inl (hM r (.inl rfl)),by simp;exact fun e=>this e.symm⟩
 cases h1:dX L en p with
 |error e=>
  rw[h1]at hR
  intro h' f3
  exact⟨rfl,hR _ (s.fr.trans (f3.mono fun _ h=>.inl (.inl h)))⟩
 |ok x=>
  obtain⟨a,p1⟩:=x
  rw[h1]at hR
  simp only at hR
  intro h4 f4 r4
  have s4:=s.call f4 r4
  show dG (some (2,92,[.string ⟨#[]⟩,.int .i64 0])) 1 [(0,.agg a.enc)] h4 _
  refine CK (x:=a) (fun id hid=>Or.inr hid) s4 (.nil s4.rs.rows) .nil (fun _ _ _ he=>by cases he) (by simp) ?_
  intro v1 y h6 s6 wu sL DQ
  have t4:=lM.ag [(139,.ptr v 2),(140,aQ),(141,.ptr r 0),(142,.agg a.enc),(143,v1),(144,y),(145,.ptr v 2)] (by simp)
  show dN.lx _ _ _ ⟨ag tm [(139,.ptr v 2),(140,aQ),(141,.ptr r 0),(142,.agg a.enc),(143,v1),(144,y),(145,.ptr v 2)],[]⟩ _
  generalize ag tm [(139,.ptr v 2),(140,aQ),(141,.ptr r 0),(142,.agg a.enc),(143,v1),(144,y),(145,.ptr v 2)]=h_ at *
  simp only[dN.lx,t4.e0]
  have t5:=fun t=>t4.ag [(146,.ptr r 0),(147,t)] (by simp)
  exact wk (row:=⟨k,bZ,[a],0,0,pl⟩) (a:=y) hL hM s6 sL (fun t=>(t5 t).e0) (fun t=>(t5 t).e5) (fun t=>(t5 t).e6) hR
theorem SU{d:Int}{tc:Nat}{t:Tok}(hL:iB L)(hM:∀id,SS r bG id->M id)(hp:p<=L.length)(hlen:aI.length+1<=p)(U6:tc≠v)(e4:tm 4=.ptr tc 0)(hc:h.obj tc=some (vE t)){pl:Int}(s:SI h0 h r tk L en bG aI v p rv d0 [] (az (⟨t.text,bZ,[],0,0,pl⟩,aQ)))(lM:TM tm r v d aI.length)
  (hR:Fin h0 r tk L en bG aI R (match jC L en (L.length+1) p [] with |.error e=>.error e |.ok (l,p')=>gg L en p' ⟨cn,t.text,l,0,0,pl⟩)) :
  dN.pB (fun id=>M id\/h0.next<=id) (Ab.bQ Pg [] R) (Ab.aW R) ⟨tm,[]⟩ h:=by
 simp only[dN.pB]
 refine⟨fun _=>tc,by simp[hc],?_⟩
 simp only[lM.e5,e4,aj,au,hc,ap,zG,zB,zA,aa,aE,s.vo,kQ,bz]
 refine⟨by simp,⟨⟨.inr s.vn,by simp;exact fun e=>U6 e.symm⟩,rfl,rfl,by simp[az]⟩,?_⟩
 have s1:=s.set 0 [.sc (.string cn)]
 simp only[s1.vo,bz]
 refine⟨⟨.inr s.vn,rfl,rfl,by simp[az]⟩,?_⟩
 have s2:=s1.set 1 [.sc (.string t.text)]
 have t1:=lM.ag [(55,.ptr tc 1),(56,.sc (.string t.text)),(57,.ptr v 0),(58,.ptr v 1)] (by simp)
 show dN.mI _ _ _ ⟨ag tm [(55,.ptr tc 1),(56,.sc (.string t.text)),(57,.ptr v 0),(58,.ptr v 1)],[]⟩ _
 generalize ag tm [(55,.ptr tc 1),(56,.sc (.string t.text)),(57,.ptr v 0),(58,.ptr v 1)]=fG at *
 generalize (h.put v 0 [.sc (.string cn)]).put v 1 [.sc (.string t.text)]=h1 at *
 unfold dN.mI
 generalize hX:jC L en (L.length+1) p []=X at hR
 have nl:=hL.len
 refine gY (ι:=Nat×Nat×List Arg) (fun x s' h'=>s'.ds=[]/\TM s'.tm r v d aI.length/\x.2.1<=L.length/\L.length<x.2.1+x.1/\x.2.2.length<=x.2.1/\jC L en x.1 x.2.1 x.2.2=X /\
  ∃a,SI h0 h' r tk L en bG aI v x.2.1 rv d0 [] (az (⟨cn,t.text,x.2.2,0,0,pl⟩,a))/\fg h' rv (aI++d0::[]) a/\cl Arg.enc 2 92 h' a x.2.2/\dC (h0.next<=·) a) (fun x=>x.1) (L.length+1,p,[]) ?_ ?_
 ·exact⟨rfl,t1,hp,by simp only;omega,by simp,hX,aQ,s2,.nil s2.rs.rows,.nil,fun _ _ _ he=>by cases he⟩
 rintro⟨n,q,acc⟩ ⟨c_,ds⟩ h2 ⟨rfl,t2,hq,uT,nW,eN,a,s2,xn,ii,vO⟩
 simp only at t2 hq uT nW eN s2 xn ii
 rw[dN.l2]
 cases n with
 |zero=>omega
 |succ n=>
  simp only[jC]at eN
  simp only[dN.mj,t2.e0]
  refine⟨fun _=>False,fun _ h=>h.elim,Au s2.rs.r s2.rs.t ?_⟩
  have t3:=fun b=>t2.ag [(59,.ptr r 0),(60,.sc (.bool b))] (by simp)
  cases iw:ic L q with
  |false=>
   simp only[iw,zE,if_false]at eN
   rw[<-eN]at hR
   have sY:ag c_ [(59,.ptr r 0),(60,.sc (.bool false))] 60=.sc (.bool false):=by simp
   have t4:=t3 false
   show dN.kV _ _ _ ⟨ag c_ [(59,.ptr r 0),(60,.sc (.bool false))],[]⟩ h2
   generalize ag c_ [(59,.ptr r 0),(60,.sc (.bool false))]=h_ at *
   simp only[dN.kV,sY,al,zE,zC,zH,zD,bJ,df,zV]
   simp only[dN.lP,t4.e0]
   have t5:=fun t=>t4.ag [(68,.ptr r 0),(69,t)] (by simp)
   exact wk (row:=⟨cn,t.text,acc,0,0,pl⟩) (a:=a) hL hM s2 ii (fun t=>(t5 t).e0) (fun t=>(t5 t).e5) (fun t=>(t5 t).e6) hR
  |true=>
   simp only[iw,zV]at eN
   have sY:ag c_ [(59,.ptr r 0),(60,.sc (.bool true))] 60=.sc (.bool true):=by simp
   have t4:=t3 true
   show dN.kV _ _ _ ⟨ag c_ [(59,.ptr r 0),(60,.sc (.bool true))],[]⟩ h2
   generalize ag c_ [(59,.ptr r 0),(60,.sc (.bool true))]=h_ at *
   simp only[dN.kV,sY,al,zF,zC,zI,zD]
   simp only[dN.nf]
   refine⟨fun _=>v,by simp[s2.vo],?_⟩
   simp only[t4.e5,t4.e0,aj,au,s2.vo,ap,zG]
   simp only[az,zB,zA,aa]
   refine⟨by simp,(·=r),fun id hid _=>?_,qJ rfl hL.len hq hL.GL hL.Ht s2.rs.r s2.rs.t ?_⟩
   ·have:=s2.vr
    exact hid ▸ ⟨.inl (hM r (.inl rfl)),by simp;exact fun e=>this e.symm⟩
   cases hs:dX L en q with
   |error e=>
    rw[hs]at eN
    rw[<-eN]at hR
    intro h' f3
    exact⟨rfl,hR _ (s2.fr.trans (f3.mono fun _ h=>.inl (.inl h)))⟩
   |ok x=>
    obtain⟨x,q2⟩:=x
    rw[hs]at eN
    simp only at eN
    intro h3 f3 r3
    have s3:=s2.call f3 r3
    have Fa:=xn.call s2 f3
    have wH:=ew ii f3 s2.nt
    have aay:=j3 hs
    show dG (some (2,92,[.string ⟨#[]⟩,.int .i64 0])) 1 [(0,.agg x.enc)] h3 _
    refine CK (x:=x) (fun id hid=>Or.inr hid) s3 Fa wH vO (by omega) ?_
    intro v1 y h6 s6 wu sL DQ
    simp only[bJ]
    exact⟨(n,q2,acc++[x]),by simp,trivial,t4.ag _ (by simp),by simp only;omega,by simp only;omega,by simp;omega,eN,y,s6,wu,sL,DQ⟩
end
end
section
open Go.Ab
structure TX (tm:Nat->AV) (r v:Nat) (d:Int) (n tc:Nat) (t:Tok):Prop where
 m:TM tm r v d n
 e4:tm 4=.ptr tc 0
 Ee:tm 54=.sc (.string t.text)
theorem TX.two{tm:Nat->AV}{r v:Nat}{d:Int}{n tc:Nat}{t:Tok}(x:TX tm r v d n tc t){i j:Nat}(hi:54<i)(hj:54<j)(a b:AV):TX (ag tm [(i,a),(j,b)]) r v d n tc t/\ag tm [(i,a),(j,b)] j=b:=by
 refine⟨⟨x.m.ag _ (by simp;omega),?_,?_⟩,by simp only[ag];exact EX _ _ _⟩
 ·simp only[ag];rw[jF (by omega),jF (by omega)];exact x.e4
 ·simp only[ag];rw[jF (by omega),jF (by omega)];exact x.Ee
section
variable {h0 h:AH} {r tk:Nat} {L:List Tok} {en:Int} {bG:AV} {aI:List Row} {v p:Nat} {rv:AV} {d0:Row} {M:Nat->Prop} {R:AE->AH->Prop} {tm:Nat->AV}
theorem JJ{d:Int}{kk tc:Nat}{t:Tok}(hL:iB L)(hb:rA L en kk)(hd:d=32-(kk:Int))(fI:kk<=32)(hp:p+1<=L.length)(hlen:aI.length<=p)(hM:∀id,SS r bG id->M id)(U6:tc≠v)(hc:h.obj tc=some (vE t))
  (s:SI h0 h r tk L en bG aI v (p+1) rv d0 [] (az (⟨t.text,bZ,[],0,0,t.at_⟩,aQ))) (x0:TX tm r v d aI.length tc t)
  (hR:Fin h0 r tk L en bG aI R (mD L en kk (fA L en kk) p t)) :
  dN.oA (fun id=>M id\/h0.next<=id) (Ab.bQ Pg [] R) (Ab.aW R) ⟨tm,[]⟩ h:=by
 unfold mD at hR
 have oD:aI.length+1<=p+1:=by omega
 have At:∀(tm:Nat->AV),TX tm r v d aI.length tc t->tm 70=.sc (.bool true)->(t.text=bF\/t.text=cE)->dN.nM (fun id=>M id\/h0.next<=id) (Ab.bQ Pg [] R) (Ab.aW R) ⟨tm,[]⟩ h:=by
  intro tm x e tM
  rw[zX tM]at hR
  simp only[dN.nM,e,al,zD,zF,zC,zI]
  exact Pm hL hM s x.m hR
 simp only[dN.oA,x0.Ee,br]
 obtain⟨x1,e1⟩:=x0.two (i:=71) (j:=70) (by decide) (by decide) (.sc (.bool (decide (t.text=bF)))) (.sc (.bool (decide (t.text=bF))))
 generalize ag tm [(71,.sc (.bool (decide (t.text=bF)))),(70,.sc (.bool (decide (t.text=bF))))]=fG at *
 simp only[dN.q_,e1,al,x1.Ee,br]
 refine⟨fun h1=>At fG x1 (by rw[e1,h1]) (.inl (of_decide_eq_true h1)),fun h1=>?_⟩
 obtain⟨x2,e2⟩:=x1.two (i:=72) (j:=70) (by decide) (by decide) (.sc (.bool (decide (t.text=cE)))) (.sc (.bool (decide (t.text=cE))))
 generalize ag fG [(72,.sc (.bool (decide (t.text=cE)))),(70,.sc (.bool (decide (t.text=cE))))]=c_ at *
 by_cases h2:t.text=cE
 ·exact At c_ x2 (by rw[e2,zL h2]) (.inr h2)
 rw[zW (fun tM=>tM.elim (of_decide_eq_false h1) h2)]at hR
 clear At
 rw[zK h2]at e2
 simp only[dN.nM,e2,al,zE,zC,zD,zH]
 simp only[dN.re,x2.Ee,br]
 obtain⟨x3,e3⟩:=x2.two (i:=82) (j:=81) (by decide) (by decide) (.sc (.bool (decide (t.text=bD)))) (.sc (.bool (decide (t.text=bD))))
 generalize ag c_ [(82,.sc (.bool (decide (t.text=bD)))),(81,.sc (.bool (decide (t.text=bD))))]=h_ at *
 simp only[dN.py,e3,al]
 refine⟨fun h3=>?_,fun h3=>?_⟩
 ·rw[zX (of_decide_eq_true h3)]at hR
  exact Pp hL hb hd fI oD hM s x3.m hR
 rw[zW (of_decide_eq_false h3)]at hR
 simp only[dN.pz,x3.Ee,br]
 obtain⟨x4,e4⟩:=x3.two (i:=102) (j:=101) (by decide) (by decide) (.sc (.bool (decide (t.text=aT)))) (.sc (.bool (decide (t.text=aT))))
 generalize ag h_ [(102,.sc (.bool (decide (t.text=aT)))),(101,.sc (.bool (decide (t.text=aT))))]=Ds at *
 simp only[dN.nN,e4,al]
 refine⟨fun h3=>?_,fun h4=>?_⟩
 ·rw[zX (of_decide_eq_true h3)]at hR
  exact SV hL hb hd fI oD hM s x4.m hR
 rw[zW (of_decide_eq_false h4)]at hR
 simp only[dN.oX,x4.Ee,br]
 obtain⟨x5,e5⟩:=x4.two (i:=112) (j:=111) (by decide) (by decide) (.sc (.bool (decide (t.text=eZ)))) (.sc (.bool (decide (t.text=eZ))))
 generalize ag Ds [(112,.sc (.bool (decide (t.text=eZ)))),(111,.sc (.bool (decide (t.text=eZ))))]=PP at *
 simp only[dN.mH,e5,al]
 refine⟨fun h3=>?_,fun h5=>?_⟩
 ·rw[zX (of_decide_eq_true h3)]at hR
  exact Wc hL hb hd fI oD hM s x5.m hR
 rw[zW (of_decide_eq_false h5)]at hR
 simp only[dN.pA,x5.Ee,br]
 obtain⟨x6,e6⟩:=x5.two (i:=125) (j:=124) (by decide) (by decide) (.sc (.bool (decide (t.text=bT)))) (.sc (.bool (decide (t.text=bT))))
 generalize ag PP [(125,.sc (.bool (decide (t.text=bT)))),(124,.sc (.bool (decide (t.text=bT))))]=Tn at *
 simp only[dN.oY,e6,al]
 refine⟨fun h3=>?_,fun h6=>?_⟩
 ·rw[zX (of_decide_eq_true h3)]at hR
  exact Pn hL hM hp s x6.m hR
 rw[zW (of_decide_eq_false h6)]at hR
 simp only[dN.oB,x6.Ee,br]
 obtain⟨x7,e7⟩:=x6.two (i:=138) (j:=137) (by decide) (by decide) (.sc (.bool (decide (t.text=cV)))) (.sc (.bool (decide (t.text=cV))))
 generalize ag Tn [(138,.sc (.bool (decide (t.text=cV)))),(137,.sc (.bool (decide (t.text=cV))))]=tm7 at *
 simp only[dN.pV,e7,al]
 refine⟨fun h3=>?_,fun h7=>?_⟩
 ·rw[zX (of_decide_eq_true h3)]at hR
  exact Mq hL hM hp s x7.m hR
 rw[zW (of_decide_eq_false h7)]at hR
 exact SU hL hM hp oD U6 x7.e4 hc s x7.m hR
end
section
variable {h:AH} {r tk:Nat} {L:List Tok} {en:Int} {rv:AV} {rows:List Row} {p:Nat} {M:Nat->Prop} {R:AE->AH->Prop}
theorem Po{d:Int}{kk tc:Nat}{t:Tok}{h1:AH}{tm:Nat->AV}(hL:iB L)(hb:rA L en kk)(hd:d=32-(kk:Int))(fI:kk<=32)(hp:p+1<=L.length)(hlen:rows.length<=p)(hM:∀id,SS r rv id->M id)
  (jJ:r<h.next) (e0:tm 0=.ptr r 0) (e1:tm 1=.sc (.int .i64 d)) (e4:tm 4=.ptr tc 0) (hc:h1.obj tc=some (vE t)) (f1:Fr h h1 (·=r)) (jk:RS h1 r tk L en (p+1) rv rows)
  (AC:∀id off n,rv=.sl id off n->id<h.next)
  (hR:Fin h r tk L en rv rows R (mD L en kk (fA L en kk) p t)) :
  dN.lu (fun id=>M id\/h.next<=id) (Ab.bQ Pg [] R) (Ab.aW R) ⟨tm,[]⟩ h1:=by
 have nl:=hL.len
 simp only[dN.lu,e4,aj,au,hc,ap,zG,zB,zA,aa]
 refine⟨az (⟨t.text,bZ,[],0,0,t.at_⟩,aQ),rfl,?_⟩
 simp only[aV]
 refine⟨rfl,?_⟩
 have hv:=AH.b_ h1 (aP ([.string ⟨#[]⟩,.string ⟨#[]⟩,.slice none 0 0,.int .i64 0,.int .i64 0,.int .i64 0].map AV.sc) 6 87)
 simp only[aE,hv,eL,bz]
 refine⟨⟨.inr f1.next,rfl,rfl,by simp⟩,?_⟩
 have f2:=((Fr.refl (h:=h1) (S:=fun _=>False)).alloc (aP ([.string ⟨#[]⟩,.string ⟨#[]⟩,.slice none 0 0,.int .i64 0,.int .i64 0,.int .i64 0].map AV.sc) 6 87)).put (id:=h1.next) (off:=0) (cs:=az (⟨t.text,bZ,[],0,0,t.at_⟩,aQ)) (.inr (zU _))
 have pW:=js (off:=0) (cs:=az (⟨t.text,bZ,[],0,0,t.at_⟩,aQ)) hv
 have nO:h1.next<((h1.alloc (aP ([.string ⟨#[]⟩,.string ⟨#[]⟩,.slice none 0 0,.int .i64 0,.int .i64 0,.int .i64 0].map AV.sc) 6 87)).put h1.next 0 (az (⟨t.text,bZ,[],0,0,t.at_⟩,aQ))).next:=by simp[AH.vz,AH.cm]
 generalize (h1.alloc (aP ([.string ⟨#[]⟩,.string ⟨#[]⟩,.slice none 0 0,.int .i64 0,.int .i64 0,.int .i64 0].map AV.sc) 6 87)).put h1.next 0 (az (⟨t.text,bZ,[],0,0,t.at_⟩,aQ))=h2 at *
 have pW:h2.obj h1.next=some (aP (az (⟨t.text,bZ,[],0,0,t.at_⟩,aQ)) 6 87):=pW
 have eP:RS h2 r tk L en (p+1) rv rows:=jk.step (f2.mono fun _ h=>h.elim) (f2.obj jk.r fun h=>h)
 have p_:=f2.obj hc fun h=>h
 have Gx:Fr h h2 (·=r):=f1.trans (f2.mono fun _ h=>h.elim)
 have htv:tc≠h1.next:=by have:=h1.lt _ _ hc;omega
 have vn:=f1.next
 generalize h1.next=v at *
 generalize iN:ag tm _=fG
 have g0:fG 0=.ptr r 0:=by rw[<-iN];simp[e0]
 have g1:fG 1=.sc (.int .i64 d):=by rw[<-iN];simp[e1]
 have g4:fG 4=.ptr tc 0:=by rw[<-iN];simp[e4]
 have g5:fG 5=.ptr v 0:=by rw[<-iN];simp
 clear iN
 simp only[dN.pU,g0,aC,aj,au,eP.r,ap,zG,zB,zA,aa,eP.rows.len.1,eP.rows.len.2,zH]
 generalize iN:ag fG _=c_
 have k0:c_ 0=.ptr r 0:=by rw[<-iN];simp[g0]
 have k1:c_ 1=.sc (.int .i64 d):=by rw[<-iN];simp[g1]
 have k4:c_ 4=.ptr tc 0:=by rw[<-iN];simp[g4]
 have k5:c_ 5=.ptr v 0:=by rw[<-iN];simp[g5]
 have k6:c_ 6=.sc (.int .i64 rows.length):=by rw[<-iN];simp
 clear iN
 simp only[dN.oW,k0,k5,aC,aj,au,kU,eP.r,pW,ap,jX,zG,zB,zA,aa]
 have B1:(az (⟨t.text,bZ,[],0,0,t.at_⟩,aQ)).length=6:=rfl
 refine⟨by rw[B1];exact zU _,?_⟩
 rw[show List.take 6 (List.drop 0 (az (⟨t.text,bZ,[],0,0,t.at_⟩,aQ)))=az (⟨t.text,bZ,[],0,0,t.at_⟩,aQ) from rfl]
 obtain⟨l,l1,l2,l3⟩:=eP.rows
 have UU:l.length=rows.length:=by rw[<-l2];simp
 have BL:cl az 6 87 h2 rv l:=l1
 refine Q7 (f:=az) (t:=(⟨t.text,bZ,[],0,0,t.at_⟩,aQ)) dT (by decide) rfl (by decide) rfl BL ?_ (by omega) ?_
 ·intro id off n he
  exact .inl (hM id (.inr ⟨n,by rw[he,((eP.ng he).1)]⟩))
 intro y h3 hy iy k3 n3
 have f3:Fr h2 h3 (fun i=>∃off n,rv=.sl i off n):=⟨n3,fun i hi hs=>k3 i hi fun off n he=>hs ⟨off,n,he⟩⟩
 have not:∀i o,h2.obj i=some o->o.ty≠87->¬ ∃off n,rv=.sl i off n:=by
  rintro i o ho dx ⟨off,n,he⟩
  obtain⟨_,_,o',eu,ht⟩:=eP.rows.id he
  rw[ho]at eu;cases eu;exact dx ht
 have r3:=f3.obj eP.r (not _ _ eP.r (show(69:Nat)≠87 by decide))
 simp only[k0,aC,aj,aE,r3,zG]
 obtain⟨yid,FJ⟩:=hy.sl (by simp)
 have ey:cJ y=some [y]:=by rw[FJ];rfl
 simp only[ey,bz]
 refine⟨⟨.inl (hM r (.inl rfl)),by rw[FJ];rfl,rfl,by simp⟩,?_⟩
 have jp:v<h2.next:=nO
 have s3:SI h (h3.put r 3 [y]) r tk L en rv rows v (p+1) y ⟨t.text,bZ,[],0,0,t.at_⟩ [] (az (⟨t.text,bZ,[],0,0,t.at_⟩,aQ)):=by
  have f4:Fr h3 (h3.put r 3 [y]) (·=r):=Fr.refl.put (.inl rfl)
  have vr:v≠r:=by omega
  have yr:∀id,y=.sl id 0 (l++[((⟨t.text,bZ,[],0,0,t.at_⟩:Row),aQ)]).length->¬id=r:=fun id he hid=>by
   have:=iy id _ _ he
   omega
  refine⟨Gx.mono (fun _ h=>.inl h) |>.trans (f3.mono fun id ⟨off,n,he⟩=>.inl (.inr ⟨n,by rw[he,(eP.ng he).1]⟩)) |>.trans (f4.mono fun _ h=>.inl (.inl h)),⟨?_,?_,l++[(⟨t.text,bZ,[],0,0,t.at_⟩,aQ)],hy.aU f4 yr,by simp[l2],?_⟩,?_,?_,vn,jJ⟩
  ·rw[js r3];rfl
  ·exact f4.obj (f3.obj eP.t (not _ _ eP.t (show(84:Nat)≠87 by decide))) (bM eP.t eP.r (show(84:Nat)≠69 by decide))
  ·intro z hz
   rcases List.mem_append.1 hz with hz |hz
   ·rcases l3 z hz with h4 |⟨id,h4,ho⟩
    ·exact .inl h4
    ·exact .inr ⟨id,h4,f4.obj (f3.obj ho (not _ _ ho (show(92:Nat)≠87 by decide))) (bM ho eP.r (show(92:Nat)≠69 by decide))⟩
   ·simp only[List.mem_singleton]at hz
    subst hz
    exact .nil
  ·intro id off n he
   have:=iy id off n he
   omega
  ·refine f4.obj (f3.obj pW ?_) vr
   rintro⟨off,n,he⟩
   have:=AC v off n he
   omega
 have Yb:(h3.put r 3 [y]).obj tc=some (vE t):=by
  rw[AH.lr (bM p_ eP.r (show(84:Nat)≠69 by decide))]
  exact f3.obj p_ (not _ _ p_ (show(84:Nat)≠87 by decide))
 generalize h3.put r 3 [y]=h4 at *
 generalize iN:ag c_ _=h_
 have j0:h_ 0=.ptr r 0:=by rw[<-iN];simp[k0]
 have j1:h_ 1=.sc (.int .i64 d):=by rw[<-iN];simp[k1]
 have j4:h_ 4=.ptr tc 0:=by rw[<-iN];simp[k4]
 have j5:h_ 5=.ptr v 0:=by rw[<-iN];simp[k5]
 have j6:h_ 6=.sc (.int .i64 rows.length):=by rw[<-iN];simp[k6]
 clear iN
 simp only[dN.pt,j4,aj,au,Yb,ap,zG,zB,zA,aa]
 refine JJ hL hb hd fI hp hlen hM htv Yb s3 ⟨⟨?_,?_,?_,?_⟩,?_,?_⟩ hR<;>simp[j0,j1,j4,j5,j6]
end
end
section
open Go.Ab
section
variable {L:List Tok} {en:Int}
theorem Hx{kk:Nat}(hL:iB L)(fI:kk<=32)(hb:rA L en kk):G7 L en kk:=by
 intro h r tk rv rows M R p d hd hM gS hp XX hR
 have jJ:=h.lt _ _ gS.r
 have tK:=h.lt _ _ gS.t
 have rR:=hM r (.inl rfl)
 have nl:=hL.len
 rw[qi]at hR
 apply dN.calls
 have hr:=gS.r
 have ht:=gS.t
 have tail:∀(t:Tok)(tm:Nat->AV)(tc:Nat)(h1:AH),dF L en p (eK L p)=.ok t->tm 0=.ptr r 0->tm 1=.sc (.int .i64 d)->tm 4=.ptr tc 0->h1.obj tc=some (vE t)->h.next<=tc->Fr h h1 (·=r)->h1.obj r=some (m_ tk L.length (p+1:Nat) en rv)->dN.lu (fun id=>M id\/h.next<=id) (Ab.bQ Pg [] R) (Ab.aW R) ⟨tm,[]⟩ h1:=by
  intro t tm tc h1 hx e0 e1 e4 hc QH hf zj
  rw[hx]at hR
  have:=(kq hx).1
  exact Po hL hb hd fI (by omega) XX hM jJ e0 e1 e4 hc hf (gS.step hf zj) (fun id off n he=>(gS.ng he).2.2) hR
 have he:∀e,dF L en p (eK L p)=.error e->∀h',Fr h h' (·=r)->R (.bW (d_ e)) h':=by
  intro e hx h' hf;rw[hx]at hR;exact hR _ (hf.mono fun _ h=>.inl h)
 have A1:∀(dR:AV->AV->Nat->AV),(∀a b,dR a b 0=.ptr r 0/\dR a b 1=.sc (.int .i64 d)/\dR a b 4=b)->aq Pg (fun id=>M id\/h.next<=id) 55 [.ptr r 0,.sc (.bool (eK L p))] h (fun t44 rS=>bx (some [.int .i64 0,.string ⟨#[]⟩,.int .i64 0]) 3 84 rS fun t46 wK=>
   aD (some 3) t46 t44 wK (fun id=>M id\/h.next<=id) fun qa=>dN.lu (fun id=>M id\/h.next<=id) (Ab.bQ Pg [] R) (Ab.aW R) ⟨dR t44 t46,[]⟩ qa) (Ab.aW R []):=by
  intro dR iN
  refine⟨(·=r),fun _ h _=>h ▸ .inl rR,st rfl nl hr ht ?_⟩
  cases hx:dF L en p (eK L p) with
  |error e=>intro h' h1;exact⟨rfl,he e hx h' h1⟩
  |ok t=>
   intro h' h1 h2
   have h3:=h1.next
   have h4:=h'.lt _ _ h2
   simp[-dN.lu,Tok.enc,AH.da,h3]
   obtain⟨m0,m1,m4⟩:=iN (.agg [.sc (.int .i64 t.kind),.sc (.string t.text),.sc (.int .i64 t.at_)]) (.ptr h'.next 0)
   refine tail t _ h'.next _ hx m0 m1 m4 (by simp[AH.cg,AH.da]) h3 ((h1.alloc _).put (.inr h3)) (by simp[AH.cg,AH.da,nK h4,h2])
 have A2:∀(dR:AV->AV->Nat->AV),(∀a b,dR a b 0=.ptr r 0/\dR a b 1=.sc (.int .i64 d)/\dR a b 4=b)->bx (some [.int .i64 0,.string ⟨#[]⟩,.int .i64 0]) 3 84 h fun t49 tV=>aq Pg (fun id=>M id\/h.next<=id) 55 [.ptr r 0,.sc (.bool (eK L p))] tV (fun t51 pb=>
   aD (some 3) t49 t51 pb (fun id=>M id\/h.next<=id) fun tU=>dN.lu (fun id=>M id\/h.next<=id) (Ab.bQ Pg [] R) (Ab.aW R) ⟨dR t51 t49,[]⟩ tU) (Ab.aW R []):=by
  intro dR iN
  simp only[aV]
  refine⟨rfl,(·=r),fun _ h _=>h ▸ .inl rR,st rfl nl (p:=p) (L:=L) (tk:=tk) (en:=en) (rv:=rv) (by rw[AH.dM jJ];exact hr) (by rw[AH.dM tK];exact ht) ?_⟩
  have hf:=(Fr.refl (h:=h) (S:=(·=r))).alloc (aP ([.int .i64 0,.string ⟨#[]⟩,.int .i64 0].map .sc) 3 84)
  cases hx:dF L en p (eK L p) with
  |error e=>intro h' h1;exact⟨rfl,he e hx h' (hf.trans (h1.mono fun _ h=>.inl h))⟩
  |ok t=>
   intro h' h1 h2
   have h3:=h1.obj (AH.b_ _ _) (nK jJ).2.1
   have h4:=h1.next
   simp only[AH.cm]at h4
   simp[-dN.lu,Tok.enc,h3]
   obtain⟨m0,m1,m4⟩:=iN (.agg [.sc (.int .i64 t.kind),.sc (.string t.text),.sc (.int .i64 t.at_)]) (.ptr h.next 0)
   refine tail t _ h.next _ hx m0 m1 m4 (by simp[AH.cg,h3]) (zU _) ((hf.trans (h1.mono fun _ h=>.inl h)).put (.inr (zU _))) (by simp[AH.cg,nK jJ,h2])
 by_cases aL:p<L.length
 ·by_cases hk:L[p].kind=1
  ·have hw:eK L p=true:=by simp[eK,aL,hk]
   simp only[hw]at A1 A2
   simp[-dN.lu,-aV,-aE,hr,ht,aL,eT Tok.bu,ep Tok.bu,Tok.enc,hk]
   exact⟨A1 _ (fun _ _=>by simp),A2 _ (fun _ _=>by simp)⟩
  ·have hw:eK L p=false:=by simp[eK,aL,hk]
   have Lo:(L[p].kind==1)=false:=by simpa using hk
   simp only[hw]at A1 A2
   simp[-dN.lu,-aV,-aE,hr,ht,aL,eT Tok.bu,ep Tok.bu,Tok.enc,Lo]
   exact⟨A1 _ (fun _ _=>by simp),A2 _ (fun _ _=>by simp)⟩
 ·have hw:eK L p=false:=by simp[eK,aL]
  simp only[hw]at A1 A2
  simp[-dN.lu,-aV,-aE,hr,aL]
  exact⟨A1 _ (fun _ _=>by simp),A2 _ (fun _ _=>by simp)⟩
theorem Rp(hL:iB L):∀kk,kk<=32->G7 L en kk:=by
 intro kk
 induction kk with
 |zero=>intro hk;exact Hx hL hk (Im hL fun k' he=>by omega)
 |succ kk ih=>intro hk;exact Hx hL hk (Im hL fun k' he=>by cases he;exact ih (by omega))
end
end
section
open Go.Ab
theorem M7(p:Int->Bool)(s:ByteArray):∀(n i:Nat),s.size-i=n->∀j,i<=j->j<eX p s i->p (fU s j)=true:=by
 intro n
 induction n with
 |zero=>intro i h j h1 h2;rw[eX,dif_neg (by omega)]at h2;omega
 |succ n ih=>
  intro i h j h1 h2
  have hi:i<s.size:=by omega
  rw[eX,dif_pos hi]at h2
  split at h2
  ·rename_i hp
   by_cases e:i=j
   ·subst e;simpa[fU,hi] using hp
   ·exact ih (i+1) (by omega) j (by omega) h2
  ·omega
theorem Hn{s:ByteArray}{a b:Nat}{c:UInt8}(h:c∈(s.extract a b).data.toList):∃j,a<=j/\j<b/\j<s.size/\fU s j=c.toNat:=by
 rw[ByteArray.data_extract,Array.toList_extract,List.extract_eq_take_drop]at h
 obtain⟨k,hk,rfl⟩:=List.mem_iff_getElem.1 h
 simp only[yA,List.length_drop,Array.length_toList]at hk
 refine⟨a+k,by omega,by omega,by have:s.data.size=s.size:=rfl;omega,?_⟩
 have hs:a+k<s.size:=by have:s.data.size=s.size:=rfl;omega
 simp[fU,hs]
 rfl
theorem extract_size(s:ByteArray)(a b:Nat):(s.extract a b).size<=s.size:=by rw[ByteArray.size_extract];omega
def EA(s:ByteArray)(t:Tok):Prop:=t.text.size<=s.size/\(t.kind=2->∀c∈t.text.data.toList,48<=c.toNat/\c.toNat<=57)
theorem Nq{s:ByteArray}{i j:Nat}{t:Tok}(h:mG s i (fU s i)=.tok t j):EA s t:=by
 unfold mG at h
 split at h
 ·cases h
 split at h
 ·cases h
 split at h
 ·cases h;exact⟨extract_size _ _ _,fun h=>by cases h⟩
 split at h
 ·split at h
  ·cases h
  ·cases h
   refine⟨extract_size _ _ _,fun _ c hc=>?_⟩
   obtain⟨k,h1,h2,h3,h4⟩:=Hn hc
   have:=M7 isDigit s _ i rfl k h1 h2
   rw[h4]at this
   simp[isDigit]at this
   omega
 split at h
 ·cases h;exact⟨extract_size _ _ _,fun h=>by cases h⟩
 ·cases h
theorem M4{s:ByteArray}:∀(n i:Nat)(acc l:List Tok),s.size-i=n->fB s i acc=.ok l->acc.length<=i->i<=s.size->(∀t∈acc,EA s t)->l.length<=s.size/\∀t∈l,EA s t:=by
 intro n
 induction n using Nat.strongRecOn with
 |_ n ih=>
  intro i acc l hn h ha hi ed
  rw[fB]at h
  split at h
  ·rename_i aL
   split at h
   ·split at h
    ·rename_i j _ hj
     by_cases BU:j<=s.size
     ·exact ih (s.size-j) (by omega) j acc l rfl h (by omega) BU ed
     ·rw[fB,dif_neg (by omega)]at h;cases h;exact⟨by omega,ed⟩
    ·cases h
   ·rename_i t j hl
    have UO:∀t'∈acc++[t],EA s t':=by
     intro t' sN
     rcases List.mem_append.1 sN with sN |sN
     ·exact ed t' sN
     ·simp only[List.mem_singleton]at sN;subst sN;exact Nq hl
    split at h
    ·rename_i hj
     by_cases BU:j<=s.size
     ·exact ih (s.size-j) (by omega) j _ l rfl h (by simp;omega) BU UO
     ·rw[fB,dif_neg (by omega)]at h;cases h;exact⟨by simp;omega,UO⟩
    ·cases h
   ·cases h
  ·cases h;exact⟨by omega,ed⟩
theorem Aq{s:ByteArray}{l:List Tok}(hs:s.size<=65536)(h:fB s 0 []=.ok l):iB l:=by
 obtain⟨h1,h2⟩:=M4 _ 0 [] l rfl h (by simp) (by omega) (by simp)
 exact⟨by omega,fun t ht=>(h2 t ht).2,fun t ht=>zR (h2 t ht).1 hs⟩
def jl(s:ByteArray):dq (List Row):=
 if 65536<s.size then .error (0,1)
 else match fB s 0 [] with
 |.error p=>.error (p,90)
 |.ok L=>lq L s.size (L.length+1) 0 []
end
section
open Go.Ab
theorem Ut:ju Pg 20=some true:=by kernel_rfl
theorem Pq:bE.code=.seq (Code.at bE.code [0]) (Code.at bE.code [1]):=by kernel_rfl
theorem Xr:Code.at bE.code [0]=.region 0 (xm (Code.at bE.code [0])) false:=by kernel_rfl
theorem Xs:∃o0 o1,xm (Code.at bE.code [0])=#[o0,o1]/\o0.op=.call { callee:=.builtin .recover,args:=#[],argTypes:=#[] }/\o0.dst=some 6/\o0.guard=none/\o1.op=.assign (.tmp 6)/\o1.dst=some 3/\o1.guard=none:=by
 refine⟨_,_,rfl,rfl,rfl,rfl,rfl,rfl,rfl⟩
theorem JK{args:Array Value}{u u':FrameMode}{w:World}{R:Ending->FrameMode->World->Prop}(v:Value)
  (NG:∀(c₀:Frame)(cs:List Frame),c₀.mode=u->(recoverD (c₀::cs)=none/\v=.nilIface/\u'=u)\/recoverD (c₀::cs)=some (v,{ c₀ with mode:=u' }::cs))
  (h:(Code.at bE.code [1]).wp Pg (fun e a w=>(e=.normal\/e=.ret)/\a.defers=[]/\R (.returned (.tuple #[])) u' w) (Act.put (Act.put { tmps:=args++Array.replicate (21-args.size) undef,defers:=[] } (some 6) v) (some 3) v) w) :
  CallsD Pg 20 args u w R:=by
 refine callsD_of_wpS (c:=bE.code) Tryz.func20 rfl ?_
 intro c₀ cs hu
 rw[Pq]
 refine wpS_seq ?_
 rw[Xr]
 refine wpS_region ?_
 obtain⟨o0,o1,e1,a1,a2,a3,b1,b2,b3⟩:=Xs
 rw[e1]
 have fin:∀Cu:List Frame,Cu={ c₀ with mode:=u' }::cs->(Code.at bE.code [1]).wpS Pg (bodyPostS Pg Tryz.f20 c₀ cs R) (Act.put (Act.put { tmps:=args++Array.replicate (Tryz.f20.ntmps-args.size) undef,defers:=[] } (some 6) v) (some 3) v) Cu w:=by
  intro Cu zr
  refine wpS_of_wp (wp_mono h ?_)
  rintro e a w' ⟨he,hd,hR⟩
  have jv:(results Tryz.f20 a.tmps).run Pg w'=.ok (.tuple #[]) w':=by
   have:Tryz.f20.results=#[]:=rfl
   simp[results,this]
  rcases he with rfl |rfl
  ·exact⟨hd,u',zr,_,jv,hR⟩
  ·exact⟨hd,u',zr,_,jv,hR⟩
 have w0:∀y,Region.wanted o0 y=true:=fun y=>by unfold Region.wanted;rw[a3]
 have w1:∀y,Region.wanted o1 y=true:=fun y=>by unfold Region.wanted;rw[b3]
 have x0:∀(ev:Operand->Value)(w':World),(execOp ev o0).run Pg w'=.ok .recover w':=fun ev w'=>by
  obtain⟨d,op,t,p,af,gd⟩:=o0
  simp only at a1;subst a1
  simp[execOp,resolve,invoke,builtin]
 have x1:∀(ev:Operand->Value)(w':World),(execOp ev o1).run Pg w'=.ok (.value (ev (.tmp 6))) w':=fun ev w'=>by
  obtain⟨d,op,t,p,af,gd⟩:=o1
  simp only at b1;subst b1
  simp[execOp]
 have j9:6<(args++Array.replicate (Tryz.f20.ntmps-args.size) undef).size:=by
  have:Tryz.f20.ntmps=21:=rfl
  simp;omega
 have step:∀Cu:List Frame,Cu={ c₀ with mode:=u' }::cs->wpOpsS Pg #[o0,o1] (Exit.thenS ((Code.at bE.code [1]).wpS Pg (bodyPostS Pg Tryz.f20 c₀ cs R)) (bodyPostS Pg Tryz.f20 c₀ cs R)) [1] (Act.put { tmps:=args++Array.replicate (Tryz.f20.ntmps-args.size) undef,defers:=[] } (some 6) v) Cu w:=by
  intro Cu zr
  simp only[wpOpsS,List.getElem?_toArray,zB,zA,w1,zV,x1,Oper.upon_value,b2]
  have e6:(Act.put { tmps:=args++Array.replicate (Tryz.f20.ntmps-args.size) undef,defers:=[] } (some 6) v).eval (.tmp 6)=v:=by
   show((args++Array.replicate (Tryz.f20.ntmps-args.size) undef).setIfInBounds 6 v).getD 6 undef=v
   rw[Array.getD_eq_getD_getElem?,Array.getElem?_setIfInBounds_self_of_lt j9];rfl
  rw[e6]
  exact fin Cu zr
 show wpOpsS Pg #[o0,o1] _ [0,1] _ _ _
 rw[wpOpsS]
 simp only[List.getElem?_toArray,zA,w0,zV,x0,a2]
 rcases NG c₀ cs hu with⟨h1,rfl,rfl⟩ |h1
 ·rw[h1]
  exact step _ (by subst hu;rfl)
 ·rw[h1]
  exact step _ rfl
section
variable {h:AH} {M:Nat->Prop} {rc ac ec:Nat}
theorem IF{E:Env}{w:World}{fW:List Value}{u u':FrameMode}{v:Value}{av:AV}{R:AH->Prop}(hr:Rel E h w)(ha:dg E [.ptr rc 0,.ptr ac 0,.ptr ec 0] fW)(hv:VR E av v)
  (NG:∀(c₀:Frame)(cs:List Frame),c₀.mode=u->(recoverD (c₀::cs)=none/\v=.nilIface/\u'=u)\/recoverD (c₀::cs)=some (v,{ c₀ with mode:=u' }::cs))
  (hp:bE.k6 (fun id=>M id\/h.next<=id) (fun x s h'=>(x=.normal\/x=.ret)/\s.ds=[]/\R h') Ep ⟨fF (fF (s0 [.ptr rc 0,.ptr ac 0,.ptr ec 0]).tm 6 av) 3 av,[]⟩ h) :
  CallsD Pg 20 fW.toArray u w fun e u2 w'=>(∃r,e=.returned r)/\u2=u'/\∃E' h',Step E h M w E' h' w'/\R h':=by
 refine JK v NG ?_
 have ar:AR E 21 ⟨fF (fF (s0 [.ptr rc 0,.ptr ac 0,.ptr ec 0]).tm 6 av) 3 av,[]⟩ (Act.put (Act.put { tmps:=fW.toArray++Array.replicate (21-fW.toArray.size) undef,defers:=[] } (some 6) v) (some 3) v):=
  ((IS ha (n:=21) (by simp)).put (some 6) hv).put (some 3) hv
 refine wp_mono (qI (W:=fun id=>M id\/h.next<=id) (pl:=bE.pl) Tryz.mixed (Code.at bE.code [1]) (fun x s h'=>(x=.normal\/x=.ret)/\s.ds=[]/\R h') Ep _ h bE.ok ?_ E w _ hr ar) ?_
 ·exact Eq.mpr (bE.I5 _ _ _ _ _) hp
 rintro e a' w' (⟨x,E',h',s',a1,a2,a3,a4,a5,a6⟩ |⟨_,_,_,_,_,_,_,_,_,a5⟩)
 ·have hd:a'.defers=[]:=by
   have:=a3.ds
   rw[a5]at this
   generalize a'.defers=l at this
   cases this;rfl
  refine⟨?_,hd,⟨_,rfl⟩,rfl,E',h',?_,a6⟩
  ·rcases a4 with rfl |rfl
   ·cases e<;>first |exact .inl rfl |exact a1.elim
   ·cases e<;>first |exact .inr rfl |exact a1.elim
  ·exact(Step.refl hr).trans hr a2 (fun id aL hm=>by
    rcases hm with hm |hm
    ·exact .inl hm
    ·exact .inr hm)
 ·exact a5.elim
theorem SX{R:AH->Prop}(hR:R h):Rj Pg 20 [.ptr rc 0,.ptr ac 0,.ptr ec 0] h M R:=by
 intro E w fW hr ha
 refine IF (v:=.nilIface) (av:=.sc .nilIface) hr ha (.sc _) (fun c₀ cs hu=>.inl ⟨by simp[recoverD,hu],rfl,rfl⟩) ?_
 have e3:(Go.Ab.fF (Go.Ab.fF (s0 [.ptr rc 0,.ptr ac 0,.ptr ec 0]).tm 6 (.sc .nilIface)) 3 (.sc .nilIface)) 3=.sc .nilIface:=by simp
 simp only[bE.k6,bE.t6,e3]
 refine⟨rfl,Ut,?_⟩
 simp only[bE.k5,bE.t5]
 have e8:∀tm:Nat->AV,ag tm [(7,.sc .nilIface),(8,.sc (.bool false))] 8=.sc (.bool false):=fun tm=>by simp
 rw[e8]
 simp only[al,zE,zC,zH,zD]
 exact⟨.inl trivial,hR⟩
theorem SY{R:AH->Prop}{e:Int×Int}{x y z:AV}(hM:M rc/\M ac/\M ec)(h1:h.obj rc=some (aP [x] 1 37))(h2:h.obj ac=some (aP [y] 1 3))(h3:h.obj ec=some (aP [z] 1 28))
  (hR:∀h',h'.obj rc=some (aP [aQ] 1 37)->h'.obj ac=some (aP [.sc (.int .i64 e.1)] 1 3)->h'.obj ec=some (aP [.sc (.int .i64 e.2)] 1 28)->Fr h h' (fun id=>id=rc\/id=ac\/id=ec)->R h'):Rk Pg 20 [.ptr rc 0,.ptr ac 0,.ptr ec 0] (d_ e) h M R:=by
 intro E w fW u hr ha hv
 have n1:=h.lt _ _ h1
 have n2:=h.lt _ _ h2
 have n3:=h.lt _ _ h3
 have d12:=bM h1 h2 (show(37:Nat)≠3 by decide)
 have d13:=bM h1 h3 (show(37:Nat)≠28 by decide)
 have d23:=bM h2 h3 (show(3:Nat)≠28 by decide)
 refine IF (v:=u) (av:=d_ e) (u':=.panicking [{ v:=u,recovered:=true }]) hr ha hv (fun c₀ cs hu=>.inr (by simp[recoverD,hu])) ?_
 have e0:(Go.Ab.fF (Go.Ab.fF (s0 [.ptr rc 0,.ptr ac 0,.ptr ec 0]).tm 6 (d_ e)) 3 (d_ e)) 0=.ptr rc 0:=by simp
 have e1:(Go.Ab.fF (Go.Ab.fF (s0 [.ptr rc 0,.ptr ac 0,.ptr ec 0]).tm 6 (d_ e)) 3 (d_ e)) 1=.ptr ac 0:=by simp
 have e2:(Go.Ab.fF (Go.Ab.fF (s0 [.ptr rc 0,.ptr ac 0,.ptr ec 0]).tm 6 (d_ e)) 3 (d_ e)) 2=.ptr ec 0:=by simp
 have e3:(Go.Ab.fF (Go.Ab.fF (s0 [.ptr rc 0,.ptr ac 0,.ptr ec 0]).tm 6 (d_ e)) 3 (d_ e)) 3=d_ e:=by simp
 generalize Go.Ab.fF (Go.Ab.fF (s0 [.ptr rc 0,.ptr ac 0,.ptr ec 0]).tm 6 (d_ e)) 3 (d_ e)=EY at *
 simp only[bE.k6,bE.t6,e3]
 refine⟨Ut,?_⟩
 show bE.k5 _ _ _ ⟨ag EY [(7,d_ e),(8,.sc (.bool true))],[]⟩ h
 have g0:ag EY [(7,d_ e),(8,.sc (.bool true))] 0=.ptr rc 0:=by simp[e0]
 have g1:ag EY [(7,d_ e),(8,.sc (.bool true))] 1=.ptr ac 0:=by simp[e1]
 have g2:ag EY [(7,d_ e),(8,.sc (.bool true))] 2=.ptr ec 0:=by simp[e2]
 have g3:ag EY [(7,d_ e),(8,.sc (.bool true))] 3=d_ e:=by simp[e3]
 have g8:ag EY [(7,d_ e),(8,.sc (.bool true))] 8=.sc (.bool true):=by simp
 generalize ag EY [(7,d_ e),(8,.sc (.bool true))]=fG at *
 simp only[bE.k5,bE.t5,g8,al,zF,zC,zD,zI]
 simp only[bE.k4,bE.t4,g3]
 simp[-bE.k1,d_,AH.da]
 have f4:=((Fr.refl (h:=h) (S:=fun _=>False)).alloc (aP [.sc (.int .i64 0),.sc (.int .i64 0)] 2 65)).put (id:=h.next) (off:=0) (cs:=[.sc (.int .i64 e.1),.sc (.int .i64 e.2)]) (.inr (zU _))
 have o4:((h.alloc (aP [.sc (.int .i64 0),.sc (.int .i64 0)] 2 65)).put h.next 0 [.sc (.int .i64 e.1),.sc (.int .i64 e.2)]).obj h.next=some (aP [.sc (.int .i64 e.1),.sc (.int .i64 e.2)] 2 65):=by simp[AH.cg,AH.da]
 have p1:=f4.obj h1 fun h=>h
 have p2:=f4.obj h2 fun h=>h
 have p3:=f4.obj h3 fun h=>h
 generalize (h.alloc (aP [.sc (.int .i64 0),.sc (.int .i64 0)] 2 65)).put h.next 0 [.sc (.int .i64 e.1),.sc (.int .i64 e.2)]=h4 at *
 simp only[bE.k1,bE.t1]
 refine⟨fun _=>h.next,by simp[o4],?_⟩
 have q1:rc≠h.next:=by omega
 have q2:ac≠h.next:=by omega
 simp[g0,g1,g2,o4,p1,p2,p3,AH.cg,hM.1,hM.2.1,hM.2.2,q1,q2,d12,d13,d23,Ne.symm d12,Ne.symm d13,Ne.symm d23]
 refine⟨⟨.inl hM.1,fun i _=>q1⟩,⟨.inl hM.2.1,fun i _=>q2⟩,?_⟩
 refine hR _ ?_ ?_ ?_ ?_
 ·simp[AH.cg,p1,d12,d13]
 ·simp[AH.cg,p2,d23,Ne.symm d12]
 ·simp[AH.cg,p3,Ne.symm d13,Ne.symm d23]
 ·exact(((f4.mono fun _ h=>h.elim).put (.inl (.inl rfl))).put (.inl (.inr (.inl rfl)))).put (.inl (.inr (.inr rfl)))
end
end
section
open Go.Ab
section
variable (W:Nat->Prop) (Q:cH) (QP:cb) (s:St) (h:AH)
theorem Wr(C:KT):aw Pg 36 W aB.pl (Code.at aB.code [1,1,0]) (bJ C Q) QP s h=aB.t11 s h (fun s h=>aB.t10 s h C (fun s h=>aB.t9 W s h C (fun s h=>aB.t8 Q s h C))) C:=by
 have o5:∀s h,aw Pg 36 W aB.pl (Code.at aB.code [1,1,0,1,0]) (bJ C Q) QP s h=aB.t9 W s h C (fun s h=>aB.t8 Q s h C):=fun s h=>
  jn (a:=(Code.at aB.code [1,1,0,1,0,0])) (b:=(Code.at aB.code [1,1,0,1,0,1])) (by kernel_rfl) (fun s h=>aB.Ue W Q QP s h C) (aB.Ud W Q QP s h C _)
 have cZ:∀s h,aw Pg 36 W aB.pl (Code.at aB.code [1,1,0,1]) (bJ C Q) QP s h=aB.t10 s h C (fun s h=>aB.t9 W s h C (fun s h=>aB.t8 Q s h C)):=fun s h=>
  su (o:=.tmp 14) (a:=(Code.at aB.code [1,1,0,1,0])) (b:=(Code.at aB.code [1,1,0,1,1])) (by kernel_rfl) (o5 s h) rfl (aB.Qi W Q QP s h C (fun s h=>aB.t9 W s h C (fun s h=>aB.t8 Q s h C)))
 exact jn (a:=(Code.at aB.code [1,1,0,0])) (b:=(Code.at aB.code [1,1,0,1])) (by kernel_rfl) cZ (aB.Qh W Q QP s h _ C)
theorem MA(C:KT):aw Pg 36 W aB.pl (Code.at aB.code [1,1,1,1,1,0,0,0,0]) (bJ C Q) QP s h=aB.t4 s h C (fun s h=>aB.t3 Q s h C):=
 jn (a:=(Code.at aB.code [1,1,1,1,1,0,0,0,0,0])) (b:=(Code.at aB.code [1,1,1,1,1,0,0,0,0,1])) (by kernel_rfl)
  (fun s h=>su (o:=.tmp 29) (a:=(Code.at aB.code [1,1,1,1,1,0,0,0,0,1,0])) (b:=(Code.at aB.code [1,1,1,1,1,0,0,0,0,1,1])) (by kernel_rfl) rfl rfl (aB.Ja W Q QP s h C)) (aB.I9 W Q QP s h C _)
theorem Wq(K:KT)(KP:St->AV->AH->Prop):Ih Pg 36 W (xm (Code.at aB.code [1,1,1,1,1,0,0,0,1,0])) (List.range (xm (Code.at aB.code [1,1,1,1,1,0,0,0,1,0])).size) K KP s h =
  (aq Pg W 21 [(s.tm 6),(.sc (.int .i64 0))] h (fun t8 h9=>K ⟨ag s.tm [(30,(s.tm 6)),(31,t8)],s.ds⟩ h9) (KP ⟨ag s.tm [(30,(s.tm 6))],s.ds⟩)):=by kernel_rfl
theorem Wp:aB.code=.seq (Code.at aB.code [0]) (Code.at aB.code [1]):=by kernel_rfl
theorem Wo:Code.at aB.code [1]=.seq (Code.at aB.code [1,0]) (Code.at aB.code [1,1]):=by kernel_rfl
theorem Wn:Code.at aB.code [1,1]=.seq (Code.at aB.code [1,1,0]) (Code.at aB.code [1,1,1]):=by kernel_rfl
theorem Wm:Code.at aB.code [1,1,1]=.seq (Code.at aB.code [1,1,1,0]) (Code.at aB.code [1,1,1,1]):=by kernel_rfl
theorem Wl:Code.at aB.code [1,1,1,1]=.seq (Code.at aB.code [1,1,1,1,0]) (Code.at aB.code [1,1,1,1,1]):=by kernel_rfl
theorem Mz:Code.at aB.code [1,1,1,1,1]=.seq (Code.at aB.code [1,1,1,1,1,0]) (Code.at aB.code [1,1,1,1,1,1]):=by kernel_rfl
theorem My:Code.at aB.code [1,1,1,1,1,0]=.block 0 (Code.at aB.code [1,1,1,1,1,0,0]):=by kernel_rfl
theorem Mx:Code.at aB.code [1,1,1,1,1,0,0]=.loop aB.c1:=by kernel_rfl
theorem Mw:aB.c1=.seq (Code.at aB.code [1,1,1,1,1,0,0,0,0]) (Code.at aB.code [1,1,1,1,1,0,0,0,1]):=by kernel_rfl
theorem Wk:Code.at aB.code [1,1,1,1,1,0,0,0,1]=.block 1 (Code.at aB.code [1,1,1,1,1,0,0,0,1,0]):=by kernel_rfl
theorem S6:Code.at aB.code [1,1,1,1,1,0,0,0,1,0]=.region 7 (xm (Code.at aB.code [1,1,1,1,1,0,0,0,1,0])) false:=by kernel_rfl
end
end
section
open Go.Ab
def rr(s:ByteArray)(h:AH)(R:AE->AH->Prop):Prop:=
 rJ (jl s) (fun rows=>∀x h',fJ h' x rows->dC (h.next<=·) x->Fr h h' (fun _=>False)->R (.ret (.dD [x,.sc (.int .i64 0),.sc (.int .i64 0)])) h')
  (fun e=>∀h',Fr h h' (fun _=>False)->R (.ret (.dD [aQ,.sc (.int .i64 e.1),.sc (.int .i64 e.2)])) h')
abbrev o1(x:AV)(ty:TypeId):AO:=aP [x] 1 ty
structure RC (h:AH) (rc ac ec:Nat) (x y z:AV):Prop where
 r:h.obj rc=some (o1 x 37)
 a:h.obj ac=some (o1 y 3)
 e:h.obj ec=some (o1 z 28)
theorem RC.ne{h:AH}{rc ac ec:Nat}{x y z:AV}(c:RC h rc ac ec x y z):rc≠ac/\rc≠ec/\ac≠ec:=
 ⟨bM c.r c.a (show(37:Nat)≠3 by decide),bM c.r c.e (show(37:Nat)≠28 by decide),bM c.a c.e (show(3:Nat)≠28 by decide)⟩
theorem RC.res{h:AH}{rc ac ec:Nat}{x y z:AV}(c:RC h rc ac ec x y z){s:St}(e2:s.tm 2=.ptr rc 0)(e3:s.tm 3=.ptr ac 0)(e4:s.tm 4=.ptr ec 0){K:List AV->Prop}(hK:K [x,y,z]):mA Pg Tryz.f10.results.toList s h K:=by
 have:Tryz.f10.results.toList=[.cell 2 37,.cell 3 3,.cell 4 28]:=rfl
 rw[this]
 have a1:mS Pg 37=some false:=by kernel_rfl
 have a2:mS Pg 3=some false:=by kernel_rfl
 have a3:mS Pg 28=some false:=by kernel_rfl
 simp[mA,e2,e3,e4,a1,a2,a3,c.r,c.a,c.e]
 exact hK
theorem RC.fr{h h':AH}{rc ac ec:Nat}{x y z:AV}(c:RC h rc ac ec x y z){S:Nat->Prop}(hf:Fr h h' S)(h1:¬S rc)(h2:¬S ac)(h3:¬S ec):RC h' rc ac ec x y z:=⟨hf.obj c.r h1,hf.obj c.a h2,hf.obj c.e h3⟩
section
variable {h:AH} {M:Nat->Prop} {R:AE->AH->Prop} {E:Env} {w:World}
theorem xg{hr:Rel E h w}{E':Env}{h':AH}{w':World}(hs:Step E h (fun id=>M id\/h.next<=id) w E' h' w'):Step E h M w E' h' w':=(Step.refl hr).trans hr hs fun _ _ hm=>hm
theorem S4(hr:Rel E h w){s:St}{h':AH}{rc ac ec:Nat}{x y z:AV}(pZ:s.ds=[⟨.func 20,[.ptr rc 0,.ptr ac 0,.ptr ec 0],[]⟩])(e2:s.tm 2=.ptr rc 0)(e3:s.tm 3=.ptr ac 0)(e4:s.tm 4=.ptr ec 0)(c:RC h' rc ac ec x y z)
  (hR:R (.ret (.dD [x,y,z])) h'):J3 36 (fun id=>M id\/h.next<=id) E h w (bodyPostD Pg Tryz.f10 (qC E h M w R)) .ret s h':=by
 intro e E' w' a hx hs ha
 cases e<;>first |exact hx.elim |skip
 exact KX (M':=fun _=>False) hr (xg (hr:=hr) hs) ha pZ rfl (fun _ _ h=>h.elim) (SX (R:=fun h2=>mA Pg Tryz.f10.results.toList s h2 fun vs=>R (.ret (jQ vs)) h2) (c.res e2 e3 e4 hR))
theorem Py(hr:Rel E h w){s:St}{h':AH}{rc ac ec:Nat}{x y z:AV}(pZ:s.ds=[])(e2:s.tm 2=.ptr rc 0)(e3:s.tm 3=.ptr ac 0)(e4:s.tm 4=.ptr ec 0)(c:RC h' rc ac ec x y z)
  (hR:R (.ret (.dD [x,y,z])) h'):J3 36 (fun id=>M id\/h.next<=id) E h w (bodyPostD Pg Tryz.f10 (qC E h M w R)) .ret s h':=by
 intro e E' w' a hx hs ha
 cases e<;>first |exact hx.elim |skip
 have hd:a.defers=[]:=by
  have:=ha.ds
  rw[pZ]at this
  generalize a.defers=l at this
  cases this;rfl
 show Leaves Pg Tryz.f10 a.tmps _ a.defers _ _
 rw[hd]
 exact xH (xg (hr:=hr) hs) ha (c.res e2 e3 e4 hR)
theorem S5(hr:Rel E h w){s:St}{h':AH}{rc ac ec:Nat}{x y z:AV}{f:Int×Int}(pZ:s.ds=[⟨.func 20,[.ptr rc 0,.ptr ac 0,.ptr ec 0],[]⟩])(e2:s.tm 2=.ptr rc 0)(e3:s.tm 3=.ptr ac 0)(e4:s.tm 4=.ptr ec 0)(c:RC h' rc ac ec x y z)
  (n1:h.next<=rc) (n2:h.next<=ac) (n3:h.next<=ec) (hf:Fr h h' (fun _=>False)) (hR:∀h2,Fr h h2 (fun _=>False)->R (.ret (.dD [aQ,.sc (.int .i64 f.1),.sc (.int .i64 f.2)])) h2)
  {E':Env} {w':World} {a:Act} {u:Value} (hs:Step E h (fun id=>M id\/h.next<=id) w E' h' w') (ha:AR E' 36 s a) (hu:VR E' (d_ f) u) :
  bodyPostD Pg Tryz.f10 (qC E h M w R) (.panic [{ v:=u,recovered:=false }]) a w':=by
 refine KY (M':=fun id=>id=rc\/id=ac\/id=ec) hr (xg (hr:=hr) hs) ha pZ rfl hu (fun id _ hm=>.inr ?_) (SY ⟨.inl rfl,.inr (.inl rfl),.inr (.inr rfl)⟩ c.r c.a c.e ?_)
 ·rcases hm with hm |hm |hm<;>omega
 ·intro h2 a1 a2 a3 f2
  refine RC.res ⟨a1,a2,a3⟩ e2 e3 e4 (hR h2 (hf.trans (f2.mono fun id hid=>.inr ?_)))
  rcases hid with hm |hm |hm<;>omega
end
end
section
open Go.Ab
theorem fJ.cell{h:AH}{x:AV}{rows:List Row}(hr:fJ h x rows):cJ x=some [x]/\cR x=true:=by
 obtain⟨l,h1,_,_⟩:=hr
 rcases h1 with⟨rfl,_⟩ |⟨id,rfl,_⟩<;>exact⟨rfl,rfl⟩
abbrev D8(rc ac ec:Nat):List gB:=[⟨.func 20,[.ptr rc 0,.ptr ac 0,.ptr ec 0],[]⟩]
structure T8 (s:St) (rc ac ec r:Nat) (tk:AV):Prop where
 ds:s.ds=D8 rc ac ec
 e2:s.tm 2=.ptr rc 0
 e3:s.tm 3=.ptr ac 0
 e4:s.tm 4=.ptr ec 0
 e5:s.tm 5=tk
 e6:s.tm 6=.ptr r 0
theorem T8.ag{s:St}{rc ac ec r:Nat}{tk:AV}(t:T8 s rc ac ec r tk)(l:List (Nat×AV))(hl:∀x∈l,6<x.1):T8 ⟨ag s.tm l,s.ds⟩ rc ac ec r tk:=by
 have key:∀(l:List (Nat×AV))(tm:Nat->AV)(i:Nat),i<=6->(∀x∈l,6<x.1)->Go.Ab.ag tm l i=tm i:=by
  intro l
  induction l with
  |nil=>intro tm i _ _;rfl
  |cons x l ih=>
   intro tm i hi hl
   have hx:=hl x (by simp)
   show Go.Ab.ag (Go.Ab.fF tm x.1 x.2) l i=tm i
   rw[ih _ i hi (fun y hy=>hl y (by simp[hy])),jF (by omega)]
 exact⟨t.ds,(key l _ _ (by omega) hl).trans t.e2,(key l _ _ (by omega) hl).trans t.e3,(key l _ _ (by omega) hl).trans t.e4,(key l _ _ (by omega) hl).trans t.e5,(key l _ _ (by omega) hl).trans t.e6⟩
section
variable {h:AH} {M:Nat->Prop} {R:AE->AH->Prop} {E:Env} {w:World}
theorem II(hr:Rel E h w){s:St}{h':AH}{rc ac ec r:Nat}{tk x y z rv c0 c1 c2:AV}{rows:List Row}(t:T8 s rc ac ec r tk)(c:RC h' rc ac ec x y z)(n1:h.next<=rc)(n2:h.next<=ac)(n3:h.next<=ec)(iu:h'.obj r=some (aP [c0,c1,c2,rv] 4 69))(Ev:fJ h' rv rows)(hf:Fr h h' (fun _=>False))
  (hR:∀h2,fJ h2 rv rows->Fr h h2 (fun _=>False)->R (.ret (.dD [rv,.sc (.int .i64 0),.sc (.int .i64 0)])) h2) :
  TC Pg 36 (fun id=>M id\/h.next<=id) E h w (Code.at aB.code [1,1,1,1,1,1]) (bodyPostD Pg Tryz.f10 (qC E h M w R)) s h':=by
 refine Q_ Tryz.mixed hr (pl:=aB.pl) (by kernel_rfl) ?_
 rw[aB.Et]
 obtain⟨d12,d13,d23⟩:=c.ne
 simp only[aB.k1,aB.t1,t.e6,t.e2,t.e3,t.e4,aC,aj,au,iu,ap,zG,zB,zA,aa,aE,c.r,Ev.cell.1,bz]
 refine⟨⟨.inr n1,by rw[List.all_cons,Ev.cell.2];rfl,rfl,by simp⟩,?_⟩
 have ca:=c.a
 have ce:=c.e
 have cr:=c.r
 simp only[AH.cg,d12,d13,d23,Ne.symm d12,Ne.symm d13,Ne.symm d23,if_false,ca,ce,dt,bz]
 refine⟨⟨.inr n2,rfl,rfl,by simp⟩,⟨.inr n3,rfl,rfl,by simp⟩,?_⟩
 have f3:Fr h' (((h'.put rc 0 [rv]).put ac 0 [.sc (.int .i64 0)]).put ec 0 [.sc (.int .i64 0)]) (fun id=>id=rc\/id=ac\/id=ec):=((Fr.refl.put (.inl (.inl rfl))).put (.inl (.inr (.inl rfl)))).put (.inl (.inr (.inr rfl)))
 have qY:fJ (((h'.put rc 0 [rv]).put ac 0 [.sc (.int .i64 0)]).put ec 0 [.sc (.int .i64 0)]) rv rows:=by
  refine Ev.fr f3 (fun id he hid=>?_) (fun id o ho ht hid=>?_)
  ·obtain⟨_,_,o,ho,ht⟩:=Ev.id he
   rcases hid with h1 |h1 |h1
   ·exact bM ho cr (by rw[ht];show(87:Nat)≠37;decide) h1
   ·exact bM ho ca (by rw[ht];show(87:Nat)≠3;decide) h1
   ·exact bM ho ce (by rw[ht];show(87:Nat)≠28;decide) h1
  ·rcases hid with h1 |h1 |h1
   ·exact bM ho cr (by rw[ht];show(92:Nat)≠37;decide) h1
   ·exact bM ho ca (by rw[ht];show(92:Nat)≠3;decide) h1
   ·exact bM ho ce (by rw[ht];show(92:Nat)≠28;decide) h1
 have t3:=t.ag [(32,.ptr r 0),(33,.ptr r 0),(34,.ptr r 3),(35,rv)] (by simp)
 refine S4 (x:=rv) (y:=.sc (.int .i64 0)) (z:=.sc (.int .i64 0)) hr t3.ds t3.e2 t3.e3 t3.e4 ⟨?_,?_,?_⟩ (hR _ qY (hf.trans (f3.mono fun id hid=>.inr ?_)))
 ·simp[AH.cg,cr,d12,d13]
 ·simp[AH.cg,ca,d23,Ne.symm d12]
 ·simp[AH.cg,ce,Ne.symm d13,Ne.symm d23]
 ·rcases hid with h1 |h1 |h1<;>omega
theorem Pz{L:List Tok}{en:Int}(hr:Rel E h w)(hL:iB L){s:St}{h1:AH}{rc ac ec r tk:Nat}(t:T8 s rc ac ec r (.sl tk 0 L.length))(c:RC h1 rc ac ec aQ (.sc (.int .i64 0)) (.sc (.int .i64 0)))(n1:h.next<=rc)(n2:h.next<=ac)(n3:h.next<=ec)(n4:h.next<=r)
  (rs:RS h1 r tk L en 0 aQ []) (hf:Fr h h1 (fun _=>False))
  (hR:rJ (lq L en (L.length+1) 0 []) (fun rows=>∀x h',fJ h' x rows->dC (h.next<=·) x->Fr h h' (fun _=>False)->R (.ret (.dD [x,.sc (.int .i64 0),.sc (.int .i64 0)])) h')
  (fun e=>∀h',Fr h h' (fun _=>False)->R (.ret (.dD [aQ,.sc (.int .i64 e.1),.sc (.int .i64 e.2)])) h')) :
  TC Pg 36 (fun id=>M id\/h.next<=id) E h w (Code.at aB.code [1,1,1,1,1]) (bodyPostD Pg Tryz.f10 (qC E h M w R)) s h1:=by
 rw[Mz]
 refine G6 ?_
 refine AW My ?_
 generalize hX:lq L en (L.length+1) 0 []=X at hR
 have nl:=hL.len
 refine Iw (ι:=Nat×Nat×List Row×AV) Mx (fun x s' h'=>T8 s' rc ac ec r (.sl tk 0 L.length)/\RC h' rc ac ec aQ (.sc (.int .i64 0)) (.sc (.int .i64 0))/\RS h' r tk L en x.2.1 x.2.2.2 x.2.2.1/\Fr h h' (fun _=>False)/\dC (h.next<=·) x.2.2.2 /\
  x.2.1<=L.length/\L.length<x.2.1+x.1/\x.2.2.1.length<=x.2.1/\lq L en x.1 x.2.1 x.2.2.1=X) (fun x=>x.1) (L.length+1,0,[],aQ) ?_ ?_
 ·exact⟨t,c,rs,hf,(fun _ _ _ he=>by cases he),Nat.zero_le _,by simp,by simp,hX⟩
 rintro⟨n,p,acc,rv⟩ s' h' ⟨t',c',lN,mK,wB,hp,hpn,nW,tR⟩
 simp only at lN wB hp hpn nW tR
 cases n with
 |zero=>omega
 |succ n=>
  simp only[lq]at tR
  refine qB Tryz.mixed hr (pl:=aB.pl) Mw (by kernel_rfl) ?_
  rw[MA]
  have hl:bL (.sl tk 0 L.length)=fun K=>K (.sc (.int .i64 L.length)):=rfl
  simp only[aB.t4,t'.e6,t'.e5,aC,aj,au,lN.r,ap,zG,zB,zA,aa,Du,zH,HJ,bc]
  by_cases aL:p<L.length
  ·rw[zX aL]at tR
   have hd:decide ((p:Int)<(L.length:Nat))=true:=by simpa using aL
   rw[hd]
   have t2:=t'.ag [(23,.ptr r 0),(24,.ptr r 0),(25,.ptr r 1),(26,.sc (.int .i64 p)),(27,.sl tk 0 L.length),(28,.sc (.int .i64 L.length)),(29,.sc (.bool true))] (by simp)
   have LU:Go.Ab.ag s'.tm [(23,.ptr r 0),(24,.ptr r 0),(25,.ptr r 1),(26,.sc (.int .i64 p)),(27,.sl tk 0 L.length),(28,.sc (.int .i64 L.length)),(29,.sc (.bool true))] 29=.sc (.bool true):=by simp
   generalize Go.Ab.ag s'.tm [(23,.ptr r 0),(24,.ptr r 0),(25,.ptr r 1),(26,.sc (.int .i64 p)),(27,.sl tk 0 L.length),(28,.sc (.int .i64 L.length)),(29,.sc (.bool true))]=c_ at *
   simp only[aB.t3,LU,al,zF,zC,zD,zI]
   refine AW Wk ?_
   refine Mg hr S6 (K:=fun s2 h2=>T8 s2 rc ac ec r (.sl tk 0 L.length)/\RC h2 rc ac ec aQ (.sc (.int .i64 0)) (.sc (.int .i64 0))/\∃p2 new qZ,fm L en 32 p=.ok (p2,new)/\RS h2 r tk L en p2 qZ (acc++new)/\Fr h h2 (fun _=>False)/\dC (h.next<=·) qZ)
    (KP:=fun s2 v h2=>T8 s2 rc ac ec r (.sl tk 0 L.length)/\RC h2 rc ac ec aQ (.sc (.int .i64 0)) (.sc (.int .i64 0))/\Fr h h2 (fun _=>False)/\∃e,fm L en 32 p=.error e/\v=d_ e) ?_ ?_ ?_
   ·rintro s2 h2 E2 w2 a2 ⟨t3,c3,p2,new,qZ,g1,g2,g3,g4⟩ pE ii
    obtain⟨b1,b2,b3⟩:=sD 32 p p2 new g1
    rw[g1]at tR
    exact⟨(n,p2,acc++new,qZ),s2,h2,E2,by simp,⟨t3,c3,g2,g3,g4,b2,by simp only;omega,by simp;omega,tR⟩,pE,ii⟩
   ·rintro s2 v h2 E2 w2 a2 u ⟨t3,c3,f3,e,g1,rfl⟩ pE ii hu
    rw[g1]at tR
    rw[<-tR]at hR
    exact S5 hr t3.ds t3.e2 t3.e3 t3.e4 c3 n1 n2 n3 f3 hR pE ii hu
   ·rw[Wq]
    rw[t2.e6]
    have not:∀i o,h'.obj i=some o->o.ty≠69->o.ty≠87->¬SS r rv i:=by
     rintro i o ho sS wN (rfl |⟨m,he⟩)
     ·exact bM ho lN.r sS rfl
     ·obtain⟨_,_,o',eu,ht⟩:=lN.rows.id he
      rw[ho]at eu;cases eu;exact wN ht
    refine⟨SS r rv,fun id hid _=>.inr ?_,Rp (en:=en) hL 32 (by omega) (rv:=rv) (rows:=acc) (p:=p) (by omega) (fun _ h=>h) lN hp nW ?_⟩
    ·rcases hid with hid |⟨m,hid⟩
     ·omega
     ·exact wB id 0 m hid
    ·have Yk:∀h2,Fr h' h2 (SS r rv)->Fr h h2 (fun _=>False):=fun h2 f2=>mK.trans (f2.mono fun id hid=>.inr (by
      rcases hid with hid |⟨m,hid⟩
      ·omega
      ·exact wB id 0 m hid))
     have Xy:∀h2,Fr h' h2 (SS r rv)->RC h2 rc ac ec aQ (.sc (.int .i64 0)) (.sc (.int .i64 0)):=fun h2 f2=>c'.fr f2 (not _ _ c'.r (by show(37:Nat)≠69;decide) (by show(37:Nat)≠87;decide)) (not _ _ c'.a (by show(3:Nat)≠69;decide) (by show(3:Nat)≠87;decide)) (not _ _ c'.e (by show(28:Nat)≠69;decide) (by show(28:Nat)≠87;decide))
     cases ig:fm L en 32 p with
     |error e=>
      intro h2 f2
      exact⟨t2.ag [(30,.ptr r 0)] (by simp),Xy h2 f2,Yk h2 f2,e,rfl,rfl⟩
     |ok x=>
      obtain⟨p2,new⟩:=x
      intro h2 qZ eP f2 i2
      refine⟨t2.ag [(30,.ptr r 0),(31,_)] (by simp),Xy h2 f2,p2,new,qZ,rfl,eP,Yk h2 f2,fun id off m he=>?_⟩
      have h0:=(eP.ng he).1
      rcases i2 id off m he with(hid |⟨m2,hid⟩) |hid
      ·omega
      ·exact wB id 0 m2 hid
      ·exact zR mK.next hid
  ·rw[zW aL]at tR
   have hd:decide ((p:Int)<(L.length:Nat))=false:=by simpa using aL
   rw[hd]
   rw[<-tR]at hR
   have t2:=t'.ag [(23,.ptr r 0),(24,.ptr r 0),(25,.ptr r 1),(26,.sc (.int .i64 p)),(27,.sl tk 0 L.length),(28,.sc (.int .i64 L.length)),(29,.sc (.bool false))] (by simp)
   have LU:Go.Ab.ag s'.tm [(23,.ptr r 0),(24,.ptr r 0),(25,.ptr r 1),(26,.sc (.int .i64 p)),(27,.sl tk 0 L.length),(28,.sc (.int .i64 L.length)),(29,.sc (.bool false))] 29=.sc (.bool false):=by simp
   generalize Go.Ab.ag s'.tm [(23,.ptr r 0),(24,.ptr r 0),(25,.ptr r 1),(26,.sc (.int .i64 p)),(27,.sl tk 0 L.length),(28,.sc (.int .i64 L.length)),(29,.sc (.bool false))]=c_ at *
   simp only[aB.t3,LU,al,zE,zC,zD,zH]
   intro e2 E2 w2 a2 hx pE ii
   cases e2<;>first |exact hx.elim |skip
   cases hx
   exact II (M:=M) hr t2 c' n1 n2 n3 lN.r lN.rows mK (fun h2 r2 f2=>hR rv h2 r2 wB f2) E2 w2 a2 pE ii
end
end
section
open Go.Ab
section
variable {h:AH} {M:Nat->Prop} {R:AE->AH->Prop} {E:Env} {w:World}
theorem Mv{en:Int}(hr:Rel E h w){s:St}{h1:AH}{rc ac ec r:Nat}(t:T8 s rc ac ec r aQ)(c:RC h1 rc ac ec aQ (.sc (.int .i64 0)) (.sc (.int .i64 0)))(n1:h.next<=rc)(n2:h.next<=ac)(n3:h.next<=ec)
  (iu:h1.obj r=some (aP [aQ,.sc (.int .i64 0),.sc (.int .i64 en),aQ] 4 69)) (hf:Fr h h1 (fun _=>False))
  (hR:∀x h',fJ h' x []->dC (h.next<=·) x->Fr h h' (fun _=>False)->R (.ret (.dD [x,.sc (.int .i64 0),.sc (.int .i64 0)])) h') :
  TC Pg 36 (fun id=>M id\/h.next<=id) E h w (Code.at aB.code [1,1,1,1,1]) (bodyPostD Pg Tryz.f10 (qC E h M w R)) s h1:=by
 rw[Mz]
 refine G6 ?_
 refine AW My ?_
 refine Iw (ι:=Unit) Mx (fun x s' h'=>s'=s/\h'=h1) (fun _=>0) () ⟨rfl,rfl⟩ ?_
 rintro _ s' h' ⟨e1,e2⟩
 rw[e1,e2]
 clear e1 e2
 refine qB Tryz.mixed hr (pl:=aB.pl) Mw (by kernel_rfl) ?_
 rw[MA]
 simp only[aB.t4,t.e6,t.e5,aC,aj,au,iu,ap,zG,zB,zA,aa,Bf,zH,Fi,bc]
 have hd:decide ((0:Int)<((0:Nat):Int))=false:=by decide
 rw[hd]
 have t2:=t.ag [(23,.ptr r 0),(24,.ptr r 0),(25,.ptr r 1),(26,.sc (.int .i64 0)),(27,aQ),(28,.sc (.int .i64 (0:Nat))),(29,.sc (.bool false))] (by simp)
 have LU:Go.Ab.ag s.tm [(23,.ptr r 0),(24,.ptr r 0),(25,.ptr r 1),(26,.sc (.int .i64 0)),(27,aQ),(28,.sc (.int .i64 (0:Nat))),(29,.sc (.bool false))] 29=.sc (.bool false):=by simp
 generalize Go.Ab.ag s.tm [(23,.ptr r 0),(24,.ptr r 0),(25,.ptr r 1),(26,.sc (.int .i64 0)),(27,aQ),(28,.sc (.int .i64 (0:Nat))),(29,.sc (.bool false))]=c_ at *
 simp only[aB.t3,LU,al,zE,zC,zD,zH]
 intro e2 E2 w2 a2 hx pE ii
 cases e2<;>first |exact hx.elim |skip
 cases hx
 exact II (M:=M) hr t2 c n1 n2 n3 iu fJ.nil hf (fun h2 r2 f2=>hR aQ h2 r2 (fun _ _ _ he=>by cases he) f2) E2 w2 a2 pE ii
end
section
variable (h:AH) (M:Nat->Prop) (R:AE->AH->Prop) (E:Env) (w:World)
def K8:KT:=TC Pg 36 (fun id=>M id\/h.next<=id) E h w (Code.at aB.code [1,1,1]) (bodyPostD Pg Tryz.f10 (qC E h M w R))
def Y8:KT:=fun s h3=>aB.t9 (fun id=>M id\/h.next<=id) s h3 (K8 h M R E w) (fun s h3=>aB.t8 (J3 36 (fun id=>M id\/h.next<=id) E h w (bodyPostD Pg Tryz.f10 (qC E h M w R))) s h3 (K8 h M R E w))
def X8:KT:=fun s h3=>aB.t11 s h3 (fun s h3=>aB.t10 s h3 (K8 h M R E w) (Y8 h M R E w)) (K8 h M R E w)
end
structure S8 (tm:Nat->AV) (s:ByteArray) (rc ac ec:Nat):Prop where
 e0:tm 0=.sc (.string s)
 e2:tm 2=.ptr rc 0
 e3:tm 3=.ptr ac 0
 e4:tm 4=.ptr ec 0
theorem uK{i:Nat}:∀(l:List (Nat×AV))(tm:Nat->AV),(∀x∈l,x.1≠i)->ag tm l i=tm i
 |[],_,_=>rfl
 |x::l,tm,hl=>by
  have hx:=hl x (by simp)
  show ag (fF tm x.1 x.2) l i=tm i
  rw[uK l _ (fun y hy=>hl y (by simp[hy])),jF (fun e=>hx e.symm)]
theorem S8.ag{tm:Nat->AV}{s:ByteArray}{rc ac ec:Nat}(t:S8 tm s rc ac ec)(l:List (Nat×AV))(hl:∀x∈l,4<x.1):S8 (ag tm l) s rc ac ec:=
 ⟨(uK l tm fun x hx=>by have:=hl x hx;omega).trans t.e0,(uK l tm fun x hx=>by have:=hl x hx;omega).trans t.e2,(uK l tm fun x hx=>by have:=hl x hx;omega).trans t.e3,(uK l tm fun x hx=>by have:=hl x hx;omega).trans t.e4⟩
section
variable {h:AH} {M:Nat->Prop} {R:AE->AH->Prop} {E:Env} {w:World} {s:ByteArray} {rc ac ec:Nat}
theorem Hc(hr:Rel E h w){tm:Nat->AV}{h1 h2:AH}{x:AV}{a e:Int}(t:S8 tm s rc ac ec)(n1:h.next<=rc)(n2:h.next<=ac)(n3:h.next<=ec)(f0:Fr h h1 (fun _=>False))(c0:RC h1 rc ac ec aQ (.sc (.int .i64 0)) (.sc (.int .i64 0)))(f2:Fr h1 h2 (fun _=>False))
  (hk:∀c_ h3,S8 c_ s rc ac ec->c_ 5=x->RC h3 rc ac ec aQ (.sc (.int .i64 a)) (.sc (.int .i64 e))->Fr h h3 (fun _=>False)->(∀id o,h2.obj id=some o->o.ty≠3->o.ty≠28->h3.obj id=some o)->X8 h M R E w ⟨c_,[]⟩ h3) :
  cW (.dD [x,.sc (.int .i64 a),.sc (.int .i64 e)]) 0 fun t33=>cW (.dD [x,.sc (.int .i64 a),.sc (.int .i64 e)]) 1 fun t34=>cW (.dD [x,.sc (.int .i64 a),.sc (.int .i64 e)]) 2 fun t35=>
    aD (some 1) (.ptr ac 0) t34 h2 (fun id=>M id\/h.next<=id) fun wN=>aD (some 1) (.ptr ec 0) t35 wN (fun id=>M id\/h.next<=id) fun tX=>
    TC Pg 36 (fun id=>M id\/h.next<=id) E h w (Code.at aB.code [1,1]) (bodyPostD Pg Tryz.f10 (qC E h M w R)) ⟨ag tm [(8,.sc (.string s)),(9,.dD [x,.sc (.int .i64 a),.sc (.int .i64 e)]),(7,.dD [x,.sc (.int .i64 a),.sc (.int .i64 e)]),(10,t33),(11,t34),(12,t35),(5,t33)],[]⟩ tX:=by
 have c2:=c0.fr f2 (fun h=>h) (fun h=>h) (fun h=>h)
 obtain⟨d12,d13,d23⟩:=c0.ne
 have f5:=c2.e
 simp only[dE,zA,zB,aa,aE,c2.a,dt,bz,AH.cg,Ne.symm d23,if_false,f5]
 refine⟨⟨.inr n2,rfl,rfl,by simp⟩,⟨.inr n3,rfl,rfl,by simp⟩,?_⟩
 have t2:=t.ag [(8,.sc (.string s)),(9,.dD [x,.sc (.int .i64 a),.sc (.int .i64 e)]),(7,.dD [x,.sc (.int .i64 a),.sc (.int .i64 e)]),(10,x),(11,.sc (.int .i64 a)),(12,.sc (.int .i64 e)),(5,x)] (by simp)
 have t25:Go.Ab.ag tm [(8,.sc (.string s)),(9,.dD [x,.sc (.int .i64 a),.sc (.int .i64 e)]),(7,.dD [x,.sc (.int .i64 a),.sc (.int .i64 e)]),(10,x),(11,.sc (.int .i64 a)),(12,.sc (.int .i64 e)),(5,x)] 5=x:=by simp
 have cc:RC ((h2.put ac 0 [.sc (.int .i64 a)]).put ec 0 [.sc (.int .i64 e)]) rc ac ec aQ (.sc (.int .i64 a)) (.sc (.int .i64 e)):=
  ⟨by simp[AH.cg,c2.r,d12,d13],by simp[AH.cg,c2.a,d23],by simp[AH.cg,c2.e,Ne.symm d23]⟩
 have ff:Fr h ((h2.put ac 0 [.sc (.int .i64 a)]).put ec 0 [.sc (.int .i64 e)]) (fun _=>False):=((f0.trans (f2.mono fun _ h=>h.elim)).put (.inr n2)).put (.inr n3)
 have dH:∀id o,h2.obj id=some o->o.ty≠3->o.ty≠28->((h2.put ac 0 [.sc (.int .i64 a)]).put ec 0 [.sc (.int .i64 e)]).obj id=some o:=fun id o ho h3 nP=>by
  rw[AH.lr (bM ho c2.e nP),AH.lr (bM ho c2.a h3)]
  exact ho
 have:=hk _ _ t2 t25 cc ff dH
 generalize Go.Ab.ag tm [(8,.sc (.string s)),(9,.dD [x,.sc (.int .i64 a),.sc (.int .i64 e)]),(7,.dD [x,.sc (.int .i64 a),.sc (.int .i64 e)]),(10,x),(11,.sc (.int .i64 a)),(12,.sc (.int .i64 e)),(5,x)]=h_ at *
 refine qB Tryz.mixed hr (pl:=aB.pl) Wn (by kernel_rfl) ?_
 rw[Wr]
 exact this
theorem He(hr:Rel E h w){a e:Int}(dx:e≠0)(hR2:∀h',Fr h h' (fun _=>False)->R (.ret (.dD [aQ,.sc (.int .i64 a),.sc (.int .i64 e)])) h'){c_:Nat->AV}{h3:AH}(t:S8 c_ s rc ac ec)(n1:h.next<=rc)(n2:h.next<=ac)(n3:h.next<=ec)
  (c3:RC h3 rc ac ec aQ (.sc (.int .i64 a)) (.sc (.int .i64 e))) (f3:Fr h h3 (fun _=>False)):X8 h M R E w ⟨c_,[]⟩ h3:=by
 obtain⟨d12,d13,d23⟩:=c3.ne
 have Db:(e != 0)=true:=by simpa using dx
 unfold X8
 simp only[aB.t11,t.e4,au,c3.e,ap,zA,aa,cq,Db]
 have ir:ag c_ [(13,.sc (.int .i64 e)),(14,.sc (.bool true))] 14=.sc (.bool true):=by simp
 have t2:=t.ag [(13,.sc (.int .i64 e)),(14,.sc (.bool true))] (by simp)
 generalize Go.Ab.ag c_ [(13,.sc (.int .i64 e)),(14,.sc (.bool true))]=h_ at *
 simp only[aB.t10,ir,al,zF,zC,zI,zD]
 unfold Y8
 simp only[aB.t9]
 refine⟨fun i=>if i=0 then ac else ec,by simp[c3.a,c3.e],?_⟩
 have ca:=c3.a
 have ce:=c3.e
 simp only[t2.e2,t2.e3,t2.e4,au,ca,ce,c3.r,ap,zA,aa,aE,dt,Iu,bz,AH.cg,d12,d13,d23,Ne.symm d12,Ne.symm d13,Ne.symm d23,if_false]
 refine⟨rfl,rfl,⟨⟨.inr n1,?_⟩,rfl,rfl,by simp⟩,⟨⟨.inr n2,?_⟩,rfl,rfl,by simp⟩,⟨.inr n3,rfl,rfl,by simp⟩,?_⟩
 ·simp[d12,d13]
 ·simp[d23]
 have t4:=t2.ag [(15,.sc (.int .i64 a)),(16,.sc (.int .i64 e))] (by simp)
 refine Py (x:=aQ) (y:=.sc (.int .i64 a)) (z:=.sc (.int .i64 e)) hr rfl t4.e2 t4.e3 t4.e4 ⟨?_,?_,?_⟩ (hR2 _ ?_)
 ·simp[AH.cg,c3.r,d12,d13]
 ·simp[AH.cg,ca,d23,Ne.symm d12]
 ·simp[AH.cg,ce,Ne.symm d13,Ne.symm d23]
 ·exact((f3.put (.inr n1)).put (.inr n2)).put (.inr n3)
theorem PB(hr:Rel E h w){L:List Tok}(hL:iB L) (hR:rJ (lq L s.size (L.length+1) 0 []) (fun rows=>∀x h',fJ h' x rows->dC (h.next<=·) x->Fr h h' (fun _=>False)->R (.ret (.dD [x,.sc (.int .i64 0),.sc (.int .i64 0)])) h')
  (fun e=>∀h',Fr h h' (fun _=>False)->R (.ret (.dD [aQ,.sc (.int .i64 e.1),.sc (.int .i64 e.2)])) h')) {c_:Nat->AV} {h3:AH} {x:AV} (t:S8 c_ s rc ac ec) (g5:c_ 5=x) (n1:h.next<=rc) (n2:h.next<=ac) (n3:h.next<=ec)
  (c3:RC h3 rc ac ec aQ (.sc (.int .i64 0)) (.sc (.int .i64 0))) (f3:Fr h h3 (fun _=>False)) (hx:cl Tok.enc 3 84 h3 x L):X8 h M R E w ⟨c_,[]⟩ h3:=by
 have Db:((0:Int) != 0)=false:=by decide
 unfold X8
 simp only[aB.t11,t.e4,au,c3.e,ap,zA,aa,cq,Db]
 have ir:ag c_ [(13,.sc (.int .i64 0)),(14,.sc (.bool false))] 14=.sc (.bool false):=by simp
 have k5:ag c_ [(13,.sc (.int .i64 0)),(14,.sc (.bool false))] 5=x:=by simp[g5]
 have t2:=t.ag [(13,.sc (.int .i64 0)),(14,.sc (.bool false))] (by simp)
 generalize Go.Ab.ag c_ [(13,.sc (.int .i64 0)),(14,.sc (.bool false))]=h_ at *
 simp only[aB.t10,ir,al,zE,zC,zH,zD]
 unfold K8
 refine qB Tryz.mixed hr (pl:=aB.pl) Wm (by kernel_rfl) ?_
 rw[aB.Uf]
 simp only[aB.t7,t2.e2,t2.e3,t2.e4]
 show TC _ _ _ _ _ _ _ _ ⟨ag h_ [(17,.fn (.func 20) [] [.ptr rc 0,.ptr ac 0,.ptr ec 0])],[⟨.func 20,[.ptr rc 0,.ptr ac 0,.ptr ec 0],[]⟩]⟩ h3
 have j5:ag h_ [(17,.fn (.func 20) [] [.ptr rc 0,.ptr ac 0,.ptr ec 0])] 5=x:=by simp[k5]
 have t3:=t2.ag [(17,.fn (.func 20) [] [.ptr rc 0,.ptr ac 0,.ptr ec 0])] (by simp)
 generalize Go.Ab.ag h_ [(17,.fn (.func 20) [] [.ptr rc 0,.ptr ac 0,.ptr ec 0])]=Ds at *
 refine qB Tryz.mixed hr (pl:=aB.pl) Wl (by kernel_rfl) ?_
 rw[aB.I6]
 simp only[aB.t6,t3.e0,j5,EZ,zH,Ks]
 have XP:cJ x=some [x]/\cR x=true:=by
  rcases hx with⟨rfl,_⟩ |⟨id,rfl,_⟩<;>exact⟨rfl,rfl⟩
 refine⟨[x,.sc (.int .i64 0),.sc (.int .i64 s.size),aQ],?_,?_⟩
 ·simp[dU,XP.1]
 refine⟨[x,.sc (.int .i64 0),.sc (.int .i64 s.size),aQ],rfl,by simp only[List.all_cons,XP.2,List.all_nil];rfl,?_⟩
 have r5:=AH.b_ h3 (aP [x,.sc (.int .i64 0),.sc (.int .i64 s.size),aQ] 4 69)
 have f5:=(Fr.refl (h:=h3) (S:=fun _=>False)).alloc (aP [x,.sc (.int .i64 0),.sc (.int .i64 s.size),aQ] 4 69)
 have c5:=c3.fr f5 (fun h=>h) (fun h=>h) (fun h=>h)
 have Yl:=f3.trans (f5.mono fun _ h=>h.elim)
 have n4:h.next<=h3.next:=f3.next
 have t5:∀u v2:AV,T8 ⟨ag Ds [(18,x),(19,.sc (.string s)),(20,.sc (.int .i64 s.size)),(21,u),(22,v2),(6,.ptr h3.next 0)],[⟨.func 20,[.ptr rc 0,.ptr ac 0,.ptr ec 0],[]⟩]⟩ rc ac ec h3.next x:=fun u v2=>
  have tt:=t3.ag [(18,x),(19,.sc (.string s)),(20,.sc (.int .i64 s.size)),(21,u),(22,v2),(6,.ptr h3.next 0)] (by simp)
  ⟨rfl,tt.e2,tt.e3,tt.e4,by simp[j5],by simp⟩
 rcases hx with⟨rfl,rfl⟩ |⟨id,rfl,ho⟩
 ·exact Mv (M:=M) hr (t5 _ _) c5 n1 n2 n3 r5 Yl hR
 ·exact Pz (M:=M) (L:=L) (en:=s.size) (tk:=id) hr hL (t5 _ _) c5 n1 n2 n3 n4 ⟨r5,f5.obj ho (fun h=>h),.nil⟩ Yl hR
end
theorem Fh{s:ByteArray}{h:AH}{M:Nat->Prop}{R:AE->AH->Prop}(hR:rr s h R):aA Pg 10 [.sc (.string s)] h M R:=by
 intro E w fW hr ha
 refine calls_of_wp_defers (c:=aB.code) Tryz.func10 rfl ?_
 have main:TC Pg 36 (fun id=>M id\/h.next<=id) E h w aB.code (bodyPostD Pg Tryz.f10 (qC E h M w R)) (s0 [.sc (.string s)]) h:=by
  refine qB Tryz.mixed hr (pl:=aB.pl) Wp (by kernel_rfl) ?_
  rw[aB.Qf]
  simp only[aB.t13,aV]
  refine⟨rfl,rfl,rfl,?_⟩
  simp only[AH.cm]
  have c0:RC (((h.alloc (aP ([.slice none 0 0].map AV.sc) 1 37)).alloc (aP ([.int .i64 0].map AV.sc) 1 3)).alloc (aP ([.int .i64 0].map AV.sc) 1 28)) h.next (h.next+1) (h.next+2) aQ (.sc (.int .i64 0)) (.sc (.int .i64 0)):=
   ⟨by simp[AH.da,AH.cm];omega,by simp[AH.da,AH.cm],by simp[AH.da,AH.cm]⟩
  have f0:=(((Fr.refl (h:=h) (S:=fun _=>False)).alloc (aP ([.slice none 0 0].map AV.sc) 1 37)).alloc (aP ([.int .i64 0].map AV.sc) 1 3)).alloc (aP ([.int .i64 0].map AV.sc) 1 28)
  generalize ((h.alloc (aP ([.slice none 0 0].map AV.sc) 1 37)).alloc (aP ([.int .i64 0].map AV.sc) 1 3)).alloc (aP ([.int .i64 0].map AV.sc) 1 28)=h1 at *
  have t0:S8 (ag (s0 [.sc (.string s)]).tm [(2,.ptr h.next 0),(3,.ptr (h.next+1) 0),(4,.ptr (h.next+2) 0)]) s h.next (h.next+1) (h.next+2):=⟨by simp,by simp,by simp,by simp⟩
  show TC _ _ _ _ _ _ _ _ ⟨ag (s0 [.sc (.string s)]).tm [(2,.ptr h.next 0),(3,.ptr (h.next+1) 0),(4,.ptr (h.next+2) 0)],[]⟩ h1
  generalize ag (s0 [.sc (.string s)]).tm [(2,.ptr h.next 0),(3,.ptr (h.next+1) 0),(4,.ptr (h.next+2) 0)]=tm at *
  have n1:h.next<=h.next:=zU _
  have n2:h.next<=h.next+1:=by omega
  have n3:h.next<=h.next+2:=by omega
  refine qB Tryz.mixed hr (pl:=aB.pl) Wo (by kernel_rfl) ?_
  rw[aB.Qg]
  simp only[aB.t12,t0.e0,t0.e3,t0.e4]
  refine⟨fun _=>False,fun _ h=>h.elim,Rs ?_⟩
  unfold rr jl at hR
  unfold y3
  by_cases hb:65536<s.size
  ·rw[zX hb]at hR ⊢
   intro h2 m1 m2
   exact Hc hr t0 n1 n2 n3 f0 c0 ⟨m1,fun i hi _=>m2 i hi⟩ (fun c_ h3 t2 _ c3 f3 _=>He hr (by decide) hR t2 n1 n2 n3 c3 f3)
  rw[zW hb]at hR ⊢
  cases dI:fB s 0 [] with
  |error p=>
   rw[dI]at hR
   intro h2 m1 m2
   exact Hc hr t0 n1 n2 n3 f0 c0 ⟨m1,fun i hi _=>m2 i hi⟩ (fun c_ h3 t2 _ c3 f3 _=>He hr (show(90:Int)≠0 by decide) hR t2 n1 n2 n3 c3 f3)
  |ok L=>
   rw[dI]at hR
   simp only at hR
   have hL:=Aq (by omega) dI
   intro x h2 hx ix m1 m2
   refine Hc hr t0 n1 n2 n3 f0 c0 ⟨m1,fun i hi _=>m2 i hi⟩ (fun c_ h3 t2 g5 c3 f3 dH=>PB hr hL hR t2 g5 n1 n2 n3 c3 f3 ?_)
   rcases hx with hx |⟨id,hx,ho⟩
   ·exact .inl hx
   ·exact .inr ⟨id,hx,dH id _ ho (by show(84:Nat)≠3;decide) (by show(84:Nat)≠28;decide)⟩
 exact main E w _ (Step.refl hr) (IS ha (n:=36) (by simp))
end
section
open Go.Ab
def rD(p:Int->Bool)(s:ByteArray):Nat->Nat->Nat
 |0,i=>i
 |n+1,i=>if i<s.size then(if p (fU s i) then rD p s n (i+1) else i) else i
theorem HE(p:Int->Bool)(s:ByteArray):∀(n i:Nat),s.size-i<=n->rD p s n i=eX p s i
 |0,i,h=>by rw[rD,eX,dif_neg (by omega)]
 |n+1,i,h=>by
  rw[rD,eX]
  by_cases hi:i<s.size
  ·have hb:fU s i=s[i].toNat:=by simp[fU,hi]
   rw[zX hi,dif_pos hi,hb,HE p s n (i+1) (by omega)]
  ·rw[zW hi,dif_neg hi]
def Np(s:ByteArray)(i:Nat)(c:Int):Ra:=
 if ly c then .skip (i+1)
 else if c==35 then .skip (rD (fun c=>c != 10) s s.size i)
 else if gW c then .tok ⟨1,s.extract i (rD fX s s.size i),i⟩ (rD fX s s.size i)
 else if isDigit c then(if decide (rD isDigit s s.size i<s.size)&&gW (fU s (rD isDigit s s.size i)) then .err (rD isDigit s s.size i) else .tok ⟨2,s.extract i (rD isDigit s s.size i),i⟩ (rD isDigit s s.size i))
 else if jY c then .tok ⟨3,s.extract i (i+1),i⟩ (i+1)
 else .err i
theorem R7(s:ByteArray)(i:Nat)(c:Int):Np s i c=mG s i c:=by
 unfold Np mG
 simp only[HE _ s s.size i (by omega)]
def yH(s:ByteArray):Nat->Nat->List Tok->Except Nat (List Tok)
 |0,_,acc=>.ok acc
 |n+1,i,acc=>if i<s.size then
   match Np s i (fU s i) with
   |.skip j=>if i<j then yH s n j acc else .error 0
   |.tok t j=>if i<j then yH s n j (acc++[t]) else .error 0
   |.err j=>.error j
  else .ok acc
theorem Ar(s:ByteArray):∀(n i:Nat)(acc:List Tok),s.size-i<=n->yH s n i acc=fB s i acc
 |0,i,acc,h=>by rw[yH,fB,dif_neg (by omega)]
 |n+1,i,acc,h=>by
  rw[yH,fB]
  by_cases hi:i<s.size
  ·rw[zX hi,dif_pos hi,R7]
   cases mG s i (fU s i) with
   |skip j=>
    simp only
    by_cases hj:i<j
    ·rw[zX hj,zX hj,Ar s n j acc (by omega)]
    ·rw[zW hj,zW hj]
   |tok t j=>
    simp only
    by_cases hj:i<j
    ·rw[zX hj,zX hj,Ar s n j _ (by omega)]
    ·rw[zW hj,zW hj]
   |err j=>rfl
  ·rw[zW hi,dif_neg hi]
def Kl(s:ByteArray):dq (List Row):=
 if 65536<s.size then .error (0,1)
 else match yH s s.size 0 [] with
 |.error p=>.error (p,90)
 |.ok L=>lq L s.size (L.length+1) 0 []
theorem xw(s:ByteArray):Kl s=jl s:=by
 unfold Kl jl
 rw[Ar s s.size 0 [] (by omega)]
 try rfl
end
section
open Go.Ab
theorem Nr{s:ByteArray}{i:Nat}{c:Int}{t:Tok}{j:Nat}(h:mG s i c=.tok t j):t.at_=i:=by
 unfold mG at h
 split at h
 ·cases h
 split at h
 ·cases h
 split at h
 ·cases h;rfl
 split at h
 ·split at h
  ·cases h
  ·cases h;rfl
 split at h
 ·cases h;rfl
 ·cases h
theorem KV{s:ByteArray}{i j:Nat}(hi:i<s.size)(h:mG s i (fU s i)=.err j):j<=s.size:=by
 unfold mG at h
 split at h
 ·cases h
 split at h
 ·cases h
 split at h
 ·cases h
 split at h
 ·split at h
  ·cases h;exact(HD isDigit s _ i rfl (by omega)).2
  ·cases h
 split at h
 ·cases h
 ·cases h;omega
def JO(l:List Tok)(n:Nat):Prop:=(∀t∈l,0<=t.at_/\t.at_<n)/\l.Pairwise (fun a b=>a.at_<b.at_)
theorem M2{s:ByteArray}:∀(n i:Nat)(acc:List Tok),s.size-i=n->JO acc i->i<=s.size->(∀l,fB s i acc=.ok l->JO l s.size)/\(∀p,fB s i acc=.error p->p<=s.size):=by
 intro n
 induction n using Nat.strongRecOn with
 |_ n ih=>
  intro i acc hn hu hi
  have wide:∀j,i<j->JO acc j:=fun j hj=>⟨fun t ht=>by have:=hu.1 t ht;omega,hu.2⟩
  rw[fB]
  split
  ·rename_i aL
   split
   ·split
    ·rename_i j _ hj
     by_cases BU:j<=s.size
     ·exact ih (s.size-j) (by omega) j acc rfl (wide j hj) BU
     ·rw[fB,dif_neg (by omega)]
      exact⟨fun l h=>by cases h;exact wide s.size aL,fun p h=>by cases h⟩
    ·exact⟨fun l h=>(by cases h),fun p h=>by cases h;omega⟩
   ·rename_i t j hl
    have o_:=Nr hl
    have DW:∀m,i<m->JO (acc++[t]) m:=fun m hm=>by
     refine⟨fun x hx=>?_,?_⟩
     ·rcases List.mem_append.1 hx with hx |hx
      ·have:=hu.1 x hx;omega
      ·simp only[List.mem_singleton]at hx;subst hx;omega
     ·rw[List.pairwise_append]
      refine⟨hu.2,List.pairwise_singleton _ _,fun a ha b hb=>?_⟩
      simp only[List.mem_singleton]at hb
      subst hb
      have:=hu.1 a ha;omega
    split
    ·rename_i hj
     by_cases BU:j<=s.size
     ·exact ih (s.size-j) (by omega) j _ rfl (DW j hj) BU
     ·rw[fB,dif_neg (by omega)]
      exact⟨fun l h=>by cases h;exact DW s.size aL,fun p h=>by cases h⟩
    ·exact⟨fun l h=>(by cases h),fun p h=>by cases h;omega⟩
   ·rename_i j hl
    exact⟨fun l h=>(by cases h),fun p h=>by cases h;exact KV aL hl⟩
  ·exact⟨fun l h=>by cases h;exact⟨fun t ht=>by have:=hu.1 t ht;omega,hu.2⟩,fun p h=>by cases h⟩
section
variable {L:List Tok} {en:Int}
def mB(en:Int)(e:Int×Int):Prop:=e.2≠0/\0<=e.1/\e.1<=en
structure Good (L:List Tok) (en:Int):Prop where
 pos:0<=en
 at_:∀t∈L,0<=t.at_/\t.at_<=en
variable (G:Good L en)
include G
theorem oU{p:Nat}{w:Bool}{e:Int×Int}(h:dF L en p w=.error e):mB en e:=by
 have:=G.pos
 unfold dF at h
 cases hg:L[p]? with
 |none=>rw[hg]at h;cases h;exact⟨by show(101:Int)≠0;decide,G.pos,Int.le_refl _⟩
 |some t=>
  rw[hg]at h
  have:=G.at_ t (zP hg)
  cases w
  ·cases h;exact⟨by show(100:Int)≠0;decide,this.1,this.2⟩
  ·cases h
theorem q8{p:Nat}{e:Int×Int}(h:cO L en p=.error e):mB en e:=by
 unfold cO at h
 cases hn:dF L en p (ic L p) with
 |error e'=>rw[hn]at h;cases h;exact oU G hn
 |ok t=>rw[hn]at h;cases h
theorem qF{p:Nat}{e:Int×Int}(h:bY L en p=.error e):mB en e:=by
 unfold bY at h
 cases hn:dF L en p (gh L p) with
 |error e'=>rw[hn]at h;cases h;exact oU G hn
 |ok t=>
  rw[hn]at h
  simp only at h
  split at h
  ·cases h
  ·cases h
   have:=G.at_ t (zP (kq hn).2.1)
   exact⟨by show(1:Int)≠0;decide,this.1,this.2⟩
theorem vZ{p:Nat}{e:Int×Int}(h:dX L en p=.error e):mB en e:=by
 unfold dX at h
 cases hn:cO L en p with
 |error e'=>rw[hn]at h;cases h;exact q8 G hn
 |ok nm=>
  rw[hn]at h
  simp only at h
  split at h
  ·cases hu:bY L en (p+2) with
   |error e'=>rw[hu]at h;cases h;exact qF G hu
   |ok n=>
    rw[hu]at h
    cases hs:eE L en (p+3) CP with
    |error e'=>rw[hs]at h;cases h;exact oU G hs
    |ok t=>rw[hs]at h;cases h
  ·cases h
theorem sV:mB en (0,-1):=⟨by decide,Int.le_refl _,G.pos⟩
theorem BB:∀(n p:Nat)(acc:List Arg){e:Int×Int},ie L en n p acc=.error e->mB en e
 |0,_,_,e,h=>by simp only[ie]at h;cases h;exact sV G
 |n+1,p,acc,e,h=>by
  simp only[ie]at h
  split at h
  ·cases hn:cO L en p with
   |error e'=>rw[hn]at h;cases h;exact q8 G hn
   |ok nm=>rw[hn]at h;exact BB n _ _ h
  ·cases h
theorem Ej:∀(n p:Nat)(acc:List Arg){e:Int×Int},jC L en n p acc=.error e->mB en e
 |0,_,_,e,h=>by simp only[jC]at h;cases h;exact sV G
 |n+1,p,acc,e,h=>by
  simp only[jC]at h
  split at h
  ·cases hn:dX L en p with
   |error e'=>rw[hn]at h;cases h;exact vZ G hn
   |ok x=>obtain⟨a,p'⟩:=x;rw[hn]at h;exact Ej n _ _ h
  ·cases h
theorem KU{p:Nat}{row:Row}{e:Int×Int}(h:gg L en p row=.error e):mB en e:=by
 unfold gg at h
 cases hn:eE L en p r8 with
 |error e'=>rw[hn]at h;cases h;exact oU G hn
 |ok t=>rw[hn]at h;cases h
end
def uV(r:Row):ByteArray:=if r.kind=cn then r.name else r.kind
inductive kf (L:List Tok):Nat->Nat->List Row->Prop
 |nil {p p':Nat}:p<=p'->kf L p p' []
 |cons {p q p' k:Nat} {t:Tok} {r:Row} {l:List Row}:p<=k->L[k]?=some t->r.place=t.at_->uV r=t.text->0<=r.rows->r.rows<=l.length->k<q->kf L q p' l->kf L p p' (r::l)
theorem kf.vh{L:List Tok}{p q p':Nat}{a b:List Row}(h:kf L p q a)(k:kf L q p' b):kf L p p' (a++b):=by
 induction h with
 |nil h1=>
  cases k with
  |nil h2=>exact .nil (by omega)
  |cons a1 a2 a3 a4 a5 a6 a7 a8=>exact .cons (by omega) a2 a3 a4 a5 a6 a7 a8
 |cons a1 a2 a3 a4 a5 a6 a7 a8 ih=>
  rw[List.cons_append]
  exact .cons a1 a2 a3 a4 a5 (Int.le_trans a6 (Int.ofNat_le.2 (by rw[List.length_append];omega))) a7 (ih k)
theorem kf.len{L:List Tok}{p p':Nat}{l:List Row}(h:kf L p p' l):l=[]\/p+l.length<=L.length:=by
 induction h with
 |nil _=>exact .inl rfl
 |cons a1 a2 a3 a4 a5 a6 a7 a8 ih=>
  have:=(zM.1 a2).1
  rcases ih with ih |ih
  ·subst ih;exact .inr (by simp only[List.length_cons,List.length_nil];omega)
  ·exact .inr (by simp only[List.length_cons];omega)
section
variable {L:List Tok} {en:Int}
structure wb (L:List Tok) (en:Int) (step:Nat->dq (Nat×List Row)):Prop where
 ok:∀p p' new,step p=.ok (p',new)->kf L p p' new
 err:∀p e,step p=.error e->mB en e
theorem HO(G:Good L en){step:Nat->dq (Nat×List Row)}(hs:wb L en step):∀(n p q:Nat)(acc:List Row),kf L q p acc->(∀p' l,fV L step n p acc=.ok (p',l)->kf L q p' l)/\(∀e,fV L step n p acc=.error e->mB en e)
 |0,p,q,acc,_=>⟨fun _ _ h=>(by simp only[fV]at h;cases h),fun e h=>by simp only[fV]at h;cases h;exact sV G⟩
 |n+1,p,q,acc,ha=>by
  simp only[fV]
  split
  ·exact⟨fun p' l h=>by cases h;exact ha,fun e h=>by cases h⟩
  ·cases hn:step p with
   |error e'=>exact⟨fun _ _ h=>(by cases h),fun e h=>by cases h;exact hs.err _ _ hn⟩
   |ok x=>
    obtain⟨p1,new⟩:=x
    exact HO G hs n p1 q (acc++new) (ha.vh (hs.ok _ _ _ hn))
theorem W7(G:Good L en){k:Nat}{step:Nat->dq (Nat×List Row)}(hs:wb L en step){p:Nat}:(∀p' l,lT L en k step p=.ok (p',l)->kf L (p+1) p' l)/\(∀e,lT L en k step p=.error e->mB en e):=by
 unfold lT
 cases hn:eE L en p lV with
 |error e'=>exact⟨fun _ _ h=>(by cases h),fun e h=>by cases h;exact oU G hn⟩
 |ok t=>
  cases k with
  |zero=>
   refine⟨fun _ _ h=>(by cases h),fun e h=>?_⟩
   cases h
   have:=G.at_ t (zP (kq hn).2.1)
   exact⟨by show(102:Int)≠0;decide,this.1,this.2⟩
  |succ k=>
   simp only
   have:=HO G hs (L.length+1) (p+1) (p+1) [] (.nil (zU _))
   cases hl:fV L step (L.length+1) (p+1) [] with
   |error e'=>exact⟨fun _ _ h=>(by cases h),fun e h=>by cases h;exact this.2 _ hl⟩
   |ok x=>
    obtain⟨p1,rows⟩:=x
    refine⟨fun p' l h=>?_,fun e h=>by cases h⟩
    cases h
    have:=(this.1 _ _ hl).vh (.nil (Nat.le_succ _))
    simpa using this
theorem Dd(G:Good L en){k:Nat}{step:Nat->dq (Nat×List Row)}(hs:wb L en step){p0 p:Nat}{t:Tok}{row:Row}(hp:p0<p)(ht:L[p0]?=some t)(h1:row.place=t.at_)(h2:uV row=t.text) :
  (∀p' l,iJ L en k step p row=.ok (p',l)->kf L p0 p' l)/\(∀e,iJ L en k step p row=.error e->mB en e):=by
 unfold iJ
 have:=W7 G (k:=k) hs (p:=p)
 cases hn:lT L en k step p with
 |error e'=>exact⟨fun _ _ h=>(by cases h),fun e h=>by cases h;exact this.2 _ hn⟩
 |ok x=>
  obtain⟨p1,rows⟩:=x
  refine⟨fun p' l h=>?_,fun e h=>by cases h⟩
  cases h
  exact .cons (zU _) ht h1 h2 (Int.natCast_nonneg _) (Int.le_refl _) (by omega) (this.1 _ _ hn)
theorem yM(G:Good L en){p0 p:Nat}{t:Tok}{row:Row}(hp:p0<p)(ht:L[p0]?=some t)(h1:row.place=t.at_)(h2:uV row=t.text)(h3:row.rows=0) :
  (∀p' l,gg L en p row=.ok (p',l)->kf L p0 p' l)/\(∀e,gg L en p row=.error e->mB en e):=by
 refine⟨fun p' l h=>?_,fun e h=>KU G h⟩
 obtain⟨a1,_,a3⟩:=qq h
 subst a3
 exact .cons (zU _) ht h1 h2 (by omega) (by simp[h3]) (q:=p') (by omega) (.nil (zU _))
theorem qu{t nm:ByteArray}{l:List Arg}{n r pl:Int}(h:t≠cn):uV ⟨t,nm,l,n,r,pl⟩=t:=by unfold uV;rw[zW h]
theorem Hz(G:Good L en){k:Nat}{step:Nat->dq (Nat×List Row)}(hs:wb L en step){p:Nat}{t:Tok}(ht:L[p]?=some t) :
  (∀p' l,mD L en k step p t=.ok (p',l)->kf L p p' l)/\(∀e,mD L en k step p t=.error e->mB en e):=by
 have hp:p<L.length:=(zM.1 ht).1
 have er:∀{e':Int×Int},mB en e'->(∀p' l,(Except.error e':dq (Nat×List Row))=.ok (p',l)->kf L p p' l)/\(∀e,(Except.error e':dq (Nat×List Row))=.error e->mB en e):=fun h=>⟨fun _ _ h=>(by cases h),fun e h'=>by cases h';exact h⟩
 unfold mD
 split
 ·rename_i h0
  have hu:t.text≠cn:=by rcases h0 with h0 |h0<;>(rw[h0];decide)
  cases h1:cO L en (p+1) with
  |error e=>exact er (q8 G h1)
  |ok nm=>
   simp only
   cases h2:bY L en (p+2) with
   |error e=>exact er (qF G h2)
   |ok n=>exact yM G (by omega) ht rfl (qu hu) rfl
 split
 ·rename_i h0
  have hu:t.text≠cn:=by rw[h0];decide
  cases h1:cO L en (p+1) with
  |error e=>exact er (q8 G h1)
  |ok nm=>
   simp only
   have:=(na h1).1
   cases h2:ie L en (L.length+1) (p+2) [] with
   |error e=>exact er (BB G _ _ _ h2)
   |ok x=>
    obtain⟨l2,p2⟩:=x
    have a:=tH _ _ _ (by omega) h2
    exact Dd G hs (by omega) ht rfl (qu hu)
 split
 ·rename_i h0
  have hu:t.text≠cn:=by rw[h0];decide
  cases h1:bY L en (p+1) with
  |error e=>exact er (qF G h1)
  |ok n=>exact Dd G hs (by omega) ht rfl (qu hu)
 split
 ·rename_i h0
  have hu:t.text≠cn:=by rw[h0];decide
  cases h1:cO L en (p+1) with
  |error e=>exact er (q8 G h1)
  |ok nm=>
   simp only
   cases h2:bY L en (p+2) with
   |error e=>exact er (qF G h2)
   |ok n=>exact Dd G hs (by omega) ht rfl (qu hu)
 split
 ·rename_i h0
  have hu:t.text≠cn:=by rw[h0];decide
  cases h1:dX L en (p+1) with
  |error e=>exact er (vZ G h1)
  |ok x=>
   obtain⟨a,p1⟩:=x
   simp only
   have:=j3 h1
   cases h2:dX L en p1 with
   |error e=>exact er (vZ G h2)
   |ok y=>obtain⟨b,p2⟩:=y;have:=j3 h2;exact yM G (by omega) ht rfl (qu hu) rfl
 split
 ·rename_i h0
  have hu:t.text≠cn:=by rw[h0];decide
  cases h1:dX L en (p+1) with
  |error e=>exact er (vZ G h1)
  |ok x=>
   obtain⟨a,p1⟩:=x
   have:=j3 h1
   exact yM G (by omega) ht rfl (qu hu) rfl
 ·cases h1:jC L en (L.length+1) (p+1) [] with
  |error e=>exact er (Ej G _ _ _ h1)
  |ok x=>
   obtain⟨l2,p2⟩:=x
   have:=vY _ _ _ (by omega) h1
   exact yM G (by omega) ht rfl (by unfold uV;rw[zX rfl]) rfl
theorem Hy(G:Good L en):∀k,wb L en (fm L en k):=by
 have key:∀k,wb L en (fA L en k)->wb L en (fm L en k):=by
  intro k hk
  refine⟨fun p p' new h=>?_,fun p e h=>?_⟩
  ·rw[qi]at h
   cases h1:dF L en p (eK L p) with
   |error e=>rw[h1]at h;cases h
   |ok t=>rw[h1]at h;exact(Hz G hk (kq h1).2.1).1 _ _ h
  ·rw[qi]at h
   cases h1:dF L en p (eK L p) with
   |error e'=>rw[h1]at h;cases h;exact oU G h1
   |ok t=>rw[h1]at h;exact(Hz G hk (kq h1).2.1).2 _ h
 intro k
 induction k with
 |zero=>exact key 0 ⟨fun _ _ _ h=>by simp[fA]at h,fun p e h=>by simp only[fA]at h;cases h;exact sV G⟩
 |succ k ih=>exact key (k+1) ih
theorem J2(G:Good L en):∀(n p:Nat)(acc:List Row),kf L 0 p acc->(∀l,lq L en n p acc=.ok l->∃p',kf L 0 p' l)/\(∀e,lq L en n p acc=.error e->mB en e)
 |0,p,acc,_=>⟨fun _ h=>by simp[lq]at h,fun e h=>by simp only[lq]at h;cases h;exact sV G⟩
 |n+1,p,acc,ha=>by
  simp only[lq]
  split
  ·cases hn:fm L en 32 p with
   |error e'=>exact⟨fun _ h=>(by cases h),fun e h=>by cases h;exact(Hy G 32).err _ _ hn⟩
   |ok x=>
    obtain⟨p1,new⟩:=x
    exact J2 G n p1 (acc++new) (ha.vh ((Hy G 32).ok _ _ _ hn))
  ·exact⟨fun l h=>by cases h;exact⟨p,ha⟩,fun e h=>by cases h⟩
end
theorem Bt{s:ByteArray}{e:Int×Int}(h:jl s=.error e):mB s.size e:=by
 unfold jl at h
 split at h
 ·cases h;exact⟨by show(1:Int)≠0;decide,Int.le_refl _,Int.natCast_nonneg _⟩
 ·have hu:=M2 (s:=s) _ 0 [] rfl ⟨by simp,List.Pairwise.nil⟩ (by omega)
  cases hs:fB s 0 [] with
  |error p=>rw[hs]at h;cases h;have:=hu.2 p hs;exact⟨by show(90:Int)≠0;decide,Int.natCast_nonneg _,by show(p:Int)<=s.size;omega⟩
  |ok L=>
   rw[hs]at h
   have:=hu.1 L hs
   exact(J2 ⟨Int.natCast_nonneg _,fun t ht=>by have:=this.1 t ht;omega⟩ _ 0 [] (.nil (zU _))).2 _ h
end
section
open Go.Ab
def AG(L:List Tok)(rows:List Row):Prop:=∀r∈rows,r.args.length<=L.length/\r.num<=9007199254740991
section
variable {L:List Tok} {en:Int}
theorem EW:∀(l:List UInt8)(n:Int){m:Int},n<=9007199254740991->jP l n=some m->m<=9007199254740991
 |[],n,m,hn,h=>by simp only[jP,zQ]at h;omega
 |c::l,n,m,hn,h=>by
  simp only[jP]at h
  split at h
  ·cases h
  ·exact EW l _ (by omega) h
theorem vG{p:Nat}{n:Int}(h:bY L en p=.ok n):n<=9007199254740991:=by
 unfold bY at h
 cases hn:dF L en p (gh L p) with
 |error e=>rw[hn]at h;cases h
 |ok t=>
  rw[hn]at h
  simp only at h
  split at h
  ·rename_i m hm;cases h;exact EW _ _ (by decide) hm
  ·cases h
def we(L:List Tok)(step:Nat->dq (Nat×List Row)):Prop:=∀p p' new,step p=.ok (p',new)->AG L new
theorem AG.one{row:Row}(h:row.args.length<=L.length/\row.num<=9007199254740991):AG L [row]:=fun r hr=>by simp only[List.mem_singleton]at hr;subst hr;exact h
theorem AG.vh{a b:List Row}(ha:AG L a)(hb:AG L b):AG L (a++b):=fun r hr=>(List.mem_append.1 hr).elim (ha r) (hb r)
theorem vK{p p':Nat}{row:Row}{l:List Row}(hr:row.args.length<=L.length/\row.num<=9007199254740991)(h:gg L en p row=.ok (p',l)):AG L l:=by
 obtain⟨_,_,rfl⟩:=qq h
 exact .one hr
theorem Fz{step:Nat->dq (Nat×List Row)}(hs:we L step):∀(n p:Nat)(acc:List Row){l:List Row}{p':Nat},AG L acc->fV L step n p acc=.ok (p',l)->AG L l
 |0,_,_,_,_,_,h=>by simp[fV]at h
 |n+1,p,acc,l,p',ha,h=>by
  simp only[fV]at h
  split at h
  ·cases h;exact ha
  ·cases hn:step p with
   |error e=>rw[hn]at h;cases h
   |ok x=>
    obtain⟨p1,new⟩:=x
    rw[hn]at h
    exact Fz hs n p1 _ (ha.vh (hs _ _ _ hn)) h
theorem VP{k:Nat}{step:Nat->dq (Nat×List Row)}(hs:we L step){p p':Nat}{l:List Row}(h:lT L en k step p=.ok (p',l)):AG L l:=by
 unfold lT at h
 cases hn:eE L en p lV with
 |error e=>rw[hn]at h;cases h
 |ok t=>
  rw[hn]at h
  cases k with
  |zero=>cases h
  |succ k=>
   simp only at h
   cases hl:fV L step (L.length+1) (p+1) [] with
   |error e=>rw[hl]at h;cases h
   |ok x=>
    obtain⟨p1,rows⟩:=x
    rw[hl]at h
    cases h
    exact Fz hs _ _ _ (fun _ hr=>by cases hr) hl
theorem AJ{k:Nat}{step:Nat->dq (Nat×List Row)}(hs:we L step){p p':Nat}{row:Row}{l:List Row}(hr:row.args.length<=L.length/\row.num<=9007199254740991)(h:iJ L en k step p row=.ok (p',l)):AG L l:=by
 unfold iJ at h
 cases hn:lT L en k step p with
 |error e=>rw[hn]at h;cases h
 |ok x=>
  obtain⟨p1,rows⟩:=x
  rw[hn]at h;cases h
  intro r hm
  rcases List.mem_cons.1 hm with hm |hm
  ·subst hm;exact hr
  ·exact VP hs hn r hm
theorem MV{k:Nat}{step:Nat->dq (Nat×List Row)}(hs:we L step){p p':Nat}{t:Tok}{l:List Row}(hp:p<L.length)(h:mD L en k step p t=.ok (p',l)):AG L l:=by
 unfold mD at h
 split at h
 ·cases h1:cO L en (p+1) with
  |error e=>rw[h1]at h;cases h
  |ok nm=>
   rw[h1]at h;simp only at h
   cases h2:bY L en (p+2) with
   |error e=>rw[h2]at h;cases h
   |ok n=>rw[h2]at h;exact vK ⟨by simp,vG h2⟩ h
 split at h
 ·cases h1:cO L en (p+1) with
  |error e=>rw[h1]at h;cases h
  |ok nm=>
   rw[h1]at h;simp only at h
   have:=(na h1).1
   cases h2:ie L en (L.length+1) (p+2) [] with
   |error e=>rw[h2]at h;cases h
   |ok x=>obtain⟨l2,p2⟩:=x;rw[h2]at h;have a:=tH _ _ _ (by omega) h2;simp at a;exact AJ hs ⟨by simp only;omega,by simp⟩ h
 split at h
 ·cases h1:bY L en (p+1) with
  |error e=>rw[h1]at h;cases h
  |ok n=>rw[h1]at h;exact AJ hs ⟨by simp,vG h1⟩ h
 split at h
 ·cases h1:cO L en (p+1) with
  |error e=>rw[h1]at h;cases h
  |ok nm=>
   rw[h1]at h;simp only at h
   cases h2:bY L en (p+2) with
   |error e=>rw[h2]at h;cases h
   |ok n=>rw[h2]at h;exact AJ hs ⟨by simp,vG h2⟩ h
 split at h
 ·cases h1:dX L en (p+1) with
  |error e=>rw[h1]at h;cases h
  |ok x=>
   obtain⟨a,p1⟩:=x
   rw[h1]at h;simp only at h
   have:=j3 h1
   cases h2:dX L en p1 with
   |error e=>rw[h2]at h;cases h
   |ok y=>obtain⟨b,p2⟩:=y;rw[h2]at h;have:=j3 h2;exact vK ⟨by simp;omega,by simp⟩ h
 split at h
 ·cases h1:dX L en (p+1) with
  |error e=>rw[h1]at h;cases h
  |ok x=>
   obtain⟨a,p1⟩:=x
   rw[h1]at h;simp only at h
   have:=j3 h1
   exact vK ⟨by simp;omega,by simp⟩ h
 ·cases h1:jC L en (L.length+1) (p+1) [] with
  |error e=>rw[h1]at h;cases h
  |ok x=>
   obtain⟨l2,p2⟩:=x
   rw[h1]at h;simp only at h
   have:=vY _ _ _ (by omega) h1
   simp at this
   exact vK ⟨by simp only;omega,by simp⟩ h
theorem MT:∀(k:Nat),we L (fm L en k):=by
 have key:∀k,we L (fA L en k)->we L (fm L en k):=by
  intro k hk p p' new h
  rw[qi]at h
  cases h1:dF L en p (eK L p) with
  |error e=>rw[h1]at h;cases h
  |ok t=>rw[h1]at h;exact MV hk (kq h1).1 h
 intro k
 induction k with
 |zero=>exact key 0 (fun _ _ _ h=>by simp[fA]at h)
 |succ k ih=>exact key (k+1) ih
theorem Hu:∀(n p:Nat)(acc:List Row){l:List Row},p<=L.length->acc.length<=p->AG L acc->lq L en n p acc=.ok l->AG L l/\l.length<=L.length
 |0,_,_,_,_,_,_,h=>by simp[lq]at h
 |n+1,p,acc,l,hp,hl,ha,h=>by
  simp only[lq]at h
  split at h
  ·cases hn:fm L en 32 p with
   |error e=>rw[hn]at h;cases h
   |ok x=>
    obtain⟨p1,new⟩:=x
    rw[hn]at h
    obtain⟨b1,b2,b3⟩:=sD 32 p p1 new hn
    exact Hu n p1 _ b2 (by simp;omega) (ha.vh (MT 32 _ _ _ hn)) h
  ·cases h;exact⟨ha,by omega⟩
theorem Hj{s:ByteArray}{l:List Row}(h:jl s=.ok l):l.length<=65536/\∀r∈l,r.args.length<=65536/\r.num<=9007199254740991:=by
 unfold jl at h
 split at h
 ·cases h
 ·rename_i hs
  split at h
  ·cases h
  ·rename_i L dI
   have hL:=(Aq (by omega) dI).len
   obtain⟨a,b⟩:=Hu _ _ _ (Nat.zero_le _) (by simp) (fun _ hr=>by cases hr) h
   exact⟨by omega,fun r hr=>by have:=a r hr;exact⟨by omega,this.2⟩⟩
end
end
end Go.Proofs.YtjehibknlmehmaaGreat
