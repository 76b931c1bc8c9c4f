/- Gates, operations, and the check of a circuit. No condition. -/
import Derived.Test.YtbdibjgoeeokoaaGc
set_option maxRecDepth 100000
namespace Go.Proofs.Ytbdibjgoeeokoaa
section
open Go.Ab
attribute [-simp] eAlloc_d eStore_f
theorem isStr9:isStr Try.prog 9=true:=by kernel_rfl
theorem key9:KeyE Try.prog 9 Sb:=keyE_str isStr9
theorem z135:zeroAV Try.prog 87=some (.agg [I 0,I 0,B false,B false,Sb ⟨#[]⟩,.sc .nilFunc]):=by kernel_rfl
def IsFn(v:AV):Prop:=∃f a b,v=.fn f a b
section
variable {h:AH} {M:Nat->Prop} {R:AE->AH->Prop}
theorem flip_ok{x0 x1:AV}{c0 c1:AV}(h0:avCells x0=some [c0]/\oneA c0=true)(h1:avCells x1=some [c1]/\oneA c1=true)(hR:∀v h',IsFn v->Fr h h' (fun _=>False)->R (.ret v) h'):ACalls Try.prog 65 [x0,x1] h M R:=by
 apply F65.callsN
 unfold F65.n2
 refine⟨_,h0.1,by rw[List.all_cons,h0.2];rfl,_,h1.1,by rw[List.all_cons,h1.2];rfl,?_⟩
 exact hR _ _ ⟨_,_,_,rfl⟩ ((Fr.refl.alloc _).alloc _)
theorem last_ok{a b:Int}(hR:∀v h',IsFn v->Fr h h' (fun _=>False)->R (.ret v) h'):ACalls Try.prog 66 [I a,I b] h M R:=by
 apply F66.callsN
 unfold F66.n2
 refine⟨_,rfl,rfl,_,rfl,rfl,?_⟩
 exact hR _ _ ⟨_,_,_,rfl⟩ ((Fr.refl.alloc _).alloc _)
theorem mixed_ok{a b c:Int}(hR:∀v h',IsFn v->Fr h h' (fun _=>False)->R (.ret v) h'):ACalls Try.prog 67 [I a,I b,I c] h M R:=by
 apply F67.callsN
 unfold F67.n2
 refine⟨_,rfl,rfl,_,rfl,rfl,_,rfl,rfl,?_⟩
 exact hR _ _ ⟨_,_,_,rfl⟩ (((Fr.refl.alloc _).alloc _).alloc _)
theorem swapped_ok{a b c:Int}(hR:∀v h',IsFn v->Fr h h' (fun _=>False)->R (.ret v) h'):ACalls Try.prog 68 [I a,I b,I c] h M R:=by
 apply F68.callsN
 unfold F68.n2
 refine⟨_,rfl,rfl,_,rfl,rfl,_,rfl,rfl,?_⟩
 exact hR _ _ ⟨_,_,_,rfl⟩ (((Fr.refl.alloc _).alloc _).alloc _)
theorem fr_set{h1 h2:AH}{n:Nat}(f:Fr h h1 (fun _=>False))(hn:h.next<=n)(g:Fr h1 h2 (·=n)):Fr h h2 (fun _=>False):=
 f.trans (g.mono fun id e=>.inr (by rw[e];exact hn))
def gateTab:List (ByteArray×Int×Int):=[(⟨#[105]⟩,1,0),(⟨#[120]⟩,1,0),(⟨#[121]⟩,1,0),(⟨#[122]⟩,1,0),(⟨#[104]⟩,1,1),(⟨#[115]⟩,1,0),(⟨#[115,100,103]⟩,1,0),(⟨#[116]⟩,1,0),(⟨#[116,100,103]⟩,1,0),(⟨#[118]⟩,1,1),(⟨#[118,100,103]⟩,1,1),(⟨#[119]⟩,1,0),(⟨#[119,100,103]⟩,1,0),(⟨#[99,120]⟩,2,0),(⟨#[99,121]⟩,2,0),(⟨#[99,122]⟩,2,0),(⟨#[99,104]⟩,2,1),(⟨#[99,115]⟩,2,0),(⟨#[99,115,100,103]⟩,2,0),(⟨#[115,119,97,112]⟩,2,0),(⟨#[105,115,119,97,112]⟩,2,0),(⟨#[105,115,119,97,112,100,103]⟩,2,0),(⟨#[99,99,120]⟩,3,0),(⟨#[99,99,122]⟩,3,0),(⟨#[99,115,119,97,112]⟩,3,0)]
def backT(n:ByteArray):ByteArray:=if n=⟨#[115]⟩ then⟨#[115,100,103]⟩ else if n=⟨#[116]⟩ then⟨#[116,100,103]⟩ else if n=⟨#[118]⟩ then⟨#[118,100,103]⟩ else if n=⟨#[119]⟩ then⟨#[119,100,103]⟩ else if n=⟨#[99,115]⟩ then⟨#[99,115,100,103]⟩ else if n=⟨#[105,115,119,97,112]⟩ then⟨#[105,115,119,97,112,100,103]⟩ else if n=⟨#[115,100,103]⟩ then⟨#[115]⟩ else if n=⟨#[116,100,103]⟩ then⟨#[116]⟩ else if n=⟨#[118,100,103]⟩ then⟨#[118]⟩ else if n=⟨#[119,100,103]⟩ then⟨#[119]⟩ else if n=⟨#[99,115,100,103]⟩ then⟨#[99,115]⟩ else if n=⟨#[105,115,119,97,112,100,103]⟩ then⟨#[105,115,119,97,112]⟩ else n
inductive KindR:List (ByteArray×Int×Int)->List (ByteArray×AV)->Prop
 |nil:KindR [] []
 |snoc {t:List (ByteArray×Int×Int)} {l:List (ByteArray×AV)} {n:ByteArray} {a b:Int} {c d v:AV} {bk:ByteArray}:KindR t l->backT n=bk->[c,d,v].all oneA=true->KindR (t++[(n,a,b)]) (l++[(n,.agg [I a,I b,c,d,Sb bk,v])])
theorem KindR.get{t:List (ByteArray×Int×Int)}{l:List (ByteArray×AV)}(hk:KindR t l)(n:ByteArray):match t.find? (fun x=>decide (x.1=n)) with |some x=>∃c d v,getK n l=some (.agg [I x.2.1,I x.2.2,c,d,Sb (backT n),v])/\[c,d,v].all oneA=true |none=>getK n l=none:=by
 induction hk with
 |nil=>rfl
 | @snoc t l m a b c d v bk hk hr h3 ih=>
  rw[List.find?_append,getK_app]
  cases hf:t.find? (fun x=>decide (x.1=n)) with
  |some x=>
   rw[hf]at ih
   obtain⟨c',d',v',h1,h4⟩:=ih
   exact⟨c',d',v',by rw[h1];rfl,h4⟩
  |none=>
   rw[hf]at ih
   simp only at ih
   rw[ih]
   by_cases e:m=n
   ·subst e
    simp only[List.find?_cons,decide_true,Option.none_or]
    exact⟨c,d,v,by simp[getK,hr],h3⟩
   ·simp only[List.find?_cons,zK e,List.find?_nil,Option.none_or]
    simp only[getK]
    rw[zW (fun h=>e (Eq.symm h))]
theorem KindR.miss{t:List (ByteArray×Int×Int)}{l:List (ByteArray×AV)}(hk:KindR t l){n:ByteArray}(hn:t.all (fun x=>decide (x.1≠n))=true):getK n l=none:=by
 have:=hk.get n
 have hf:t.find? (fun x=>decide (x.1=n))=none:=by
  rw[List.find?_eq_none]
  intro x hx
  have:=List.all_eq_true.1 hn x hx
  simpa using this
 rw[hf]at this
 exact this
theorem kind_step{n:Nat}{t:List (ByteArray×Int×Int)}{l:List (ByteArray×AV)}{nm:ByteArray}{a b:Int}{c d v:AV}{bk:ByteArray}{W:Nat->Prop}{K:AH->Prop}(hk:KindR t l)(ho:h.obj n=some (oMap Sb 89 l))(hn:t.all (fun x=>decide (x.1≠nm))=true)(hr:backT nm=bk)(h3:[c,d,v].all oneA=true)(hW:W n)
  (hK:∀l' h',KindR (t++[(nm,a,b)]) l'->h'.obj n=some (oMap Sb 89 l')->Fr h h' (·=n)->K h'):eMSet Try.prog (some (9,87)) (.mp n) (Sb nm) (.agg [I a,I b,c,d,Sb bk,v]) h W K:=
 set_k (enc:=Sb) key9 hW ho (hk.miss hn) fun h' h1 h2=>hK _ h' (hk.snoc hr h3) h1 h2
theorem kinds_ok(hR:∀n l h',h'.obj n=some (oMap Sb 89 l)->KindR gateTab l->Fr h h' (fun _=>False)->R (.ret (.mp n)) h'):ACalls Try.prog 48 [] h M R:=by
 apply F48.callsN
 unfold F48.n2 F48.n1
 refine mk_k (enc:=Sb) fun n h1 ho1 hn f1=>?_
 have kr:=KindR.nil
 refine bsl_new ⟨rfl,rfl⟩ fun z2 h2 f' _ _=>?_
 have ho2:=f'.ob0 ho1
 have f2:=f1.tr0 f'
 refine⟨fun _=>False,fun _ h=>h.elim,flip_ok ⟨rfl,rfl⟩ ⟨rfl,rfl⟩ fun v3 h3 hv f'=>?_⟩
 obtain⟨_,_,_,rfl⟩:=hv
 have ho3:=f'.ob0 ho2
 have f3:=f2.tr0 f'
 refine⟨_,rfl,?_⟩
 refine kind_step kr ho3 (by decide +kernel) (by decide +kernel) rfl (.inr hn) fun l h4 kr ho4 f'=>?_
 have f4:=fr_set f3 hn f'
 refine bsl_new ⟨rfl,rfl⟩ fun z5 h5 f' _ _=>?_
 have ho5:=f'.ob0 ho4
 have f5:=f4.tr0 f'
 refine⟨fun _=>False,fun _ h=>h.elim,flip_ok ⟨rfl,rfl⟩ ⟨rfl,rfl⟩ fun v6 h6 hv f'=>?_⟩
 obtain⟨_,_,_,rfl⟩:=hv
 have ho6:=f'.ob0 ho5
 have f6:=f5.tr0 f'
 refine⟨_,rfl,?_⟩
 refine kind_step kr ho6 (by decide +kernel) (by decide +kernel) rfl (.inr hn) fun l h7 kr ho7 f'=>?_
 have f7:=fr_set f6 hn f'
 refine bsl_new ⟨rfl,rfl⟩ fun z8 h8 f' _ _=>?_
 have ho8:=f'.ob0 ho7
 have f8:=f7.tr0 f'
 refine⟨fun _=>False,fun _ h=>h.elim,flip_ok ⟨rfl,rfl⟩ ⟨rfl,rfl⟩ fun v9 h9 hv f'=>?_⟩
 obtain⟨_,_,_,rfl⟩:=hv
 have ho9:=f'.ob0 ho8
 have f9:=f8.tr0 f'
 refine⟨_,rfl,?_⟩
 refine kind_step kr ho9 (by decide +kernel) (by decide +kernel) rfl (.inr hn) fun l h10 kr ho10 f'=>?_
 have f10:=fr_set f9 hn f'
 refine⟨fun _=>False,fun _ h=>h.elim,last_ok fun v11 h11 hv f'=>?_⟩
 obtain⟨_,_,_,rfl⟩:=hv
 have ho11:=f'.ob0 ho10
 have f11:=f10.tr0 f'
 refine⟨_,rfl,?_⟩
 refine kind_step kr ho11 (by decide +kernel) (by decide +kernel) rfl (.inr hn) fun l h12 kr ho12 f'=>?_
 have f12:=fr_set f11 hn f'
 refine⟨fun _=>False,fun _ h=>h.elim,mixed_ok fun v13 h13 hv f'=>?_⟩
 obtain⟨_,_,_,rfl⟩:=hv
 have ho13:=f'.ob0 ho12
 have f13:=f12.tr0 f'
 refine⟨_,rfl,?_⟩
 refine kind_step kr ho13 (by decide +kernel) (by decide +kernel) rfl (.inr hn) fun l h14 kr ho14 f'=>?_
 have f14:=fr_set f13 hn f'
 refine⟨fun _=>False,fun _ h=>h.elim,last_ok fun v15 h15 hv f'=>?_⟩
 obtain⟨_,_,_,rfl⟩:=hv
 have ho15:=f'.ob0 ho14
 have f15:=f14.tr0 f'
 refine⟨_,rfl,?_⟩
 refine kind_step kr ho15 (by decide +kernel) (by decide +kernel) rfl (.inr hn) fun l h16 kr ho16 f'=>?_
 have f16:=fr_set f15 hn f'
 refine⟨fun _=>False,fun _ h=>h.elim,last_ok fun v17 h17 hv f'=>?_⟩
 obtain⟨_,_,_,rfl⟩:=hv
 have ho17:=f'.ob0 ho16
 have f17:=f16.tr0 f'
 refine⟨_,rfl,?_⟩
 refine kind_step kr ho17 (by decide +kernel) (by decide +kernel) rfl (.inr hn) fun l h18 kr ho18 f'=>?_
 have f18:=fr_set f17 hn f'
 refine⟨fun _=>False,fun _ h=>h.elim,last_ok fun v19 h19 hv f'=>?_⟩
 obtain⟨_,_,_,rfl⟩:=hv
 have ho19:=f'.ob0 ho18
 have f19:=f18.tr0 f'
 refine⟨_,rfl,?_⟩
 refine kind_step kr ho19 (by decide +kernel) (by decide +kernel) rfl (.inr hn) fun l h20 kr ho20 f'=>?_
 have f20:=fr_set f19 hn f'
 refine⟨fun _=>False,fun _ h=>h.elim,last_ok fun v21 h21 hv f'=>?_⟩
 obtain⟨_,_,_,rfl⟩:=hv
 have ho21:=f'.ob0 ho20
 have f21:=f20.tr0 f'
 refine⟨_,rfl,?_⟩
 refine kind_step kr ho21 (by decide +kernel) (by decide +kernel) rfl (.inr hn) fun l h22 kr ho22 f'=>?_
 have f22:=fr_set f21 hn f'
 refine⟨fun _=>False,fun _ h=>h.elim,mixed_ok fun v23 h23 hv f'=>?_⟩
 obtain⟨_,_,_,rfl⟩:=hv
 have ho23:=f'.ob0 ho22
 have f23:=f22.tr0 f'
 refine⟨_,rfl,?_⟩
 refine kind_step kr ho23 (by decide +kernel) (by decide +kernel) rfl (.inr hn) fun l h24 kr ho24 f'=>?_
 have f24:=fr_set f23 hn f'
 refine⟨fun _=>False,fun _ h=>h.elim,mixed_ok fun v25 h25 hv f'=>?_⟩
 obtain⟨_,_,_,rfl⟩:=hv
 have ho25:=f'.ob0 ho24
 have f25:=f24.tr0 f'
 refine⟨_,rfl,?_⟩
 refine kind_step kr ho25 (by decide +kernel) (by decide +kernel) rfl (.inr hn) fun l h26 kr ho26 f'=>?_
 have f26:=fr_set f25 hn f'
 refine bsl_new ⟨rfl,rfl⟩ fun z27 h27 f' _ _=>?_
 have ho27:=f'.ob0 ho26
 have f27:=f26.tr0 f'
 refine⟨fun _=>False,fun _ h=>h.elim,flip_ok ⟨rfl,rfl⟩ ⟨rfl,rfl⟩ fun v28 h28 hv f'=>?_⟩
 obtain⟨_,_,_,rfl⟩:=hv
 have ho28:=f'.ob0 ho27
 have f28:=f27.tr0 f'
 refine⟨_,rfl,?_⟩
 refine kind_step kr ho28 (by decide +kernel) (by decide +kernel) rfl (.inr hn) fun l h29 kr ho29 f'=>?_
 have f29:=fr_set f28 hn f'
 refine bsl_new ⟨rfl,rfl⟩ fun z30 h30 f' _ _=>?_
 have ho30:=f'.ob0 ho29
 have f30:=f29.tr0 f'
 refine⟨fun _=>False,fun _ h=>h.elim,flip_ok ⟨rfl,rfl⟩ ⟨rfl,rfl⟩ fun v31 h31 hv f'=>?_⟩
 obtain⟨_,_,_,rfl⟩:=hv
 have ho31:=f'.ob0 ho30
 have f31:=f30.tr0 f'
 refine⟨_,rfl,?_⟩
 refine kind_step kr ho31 (by decide +kernel) (by decide +kernel) rfl (.inr hn) fun l h32 kr ho32 f'=>?_
 have f32:=fr_set f31 hn f'
 refine⟨fun _=>False,fun _ h=>h.elim,swapped_ok fun v33 h33 hv f'=>?_⟩
 obtain⟨_,_,_,rfl⟩:=hv
 have ho33:=f'.ob0 ho32
 have f33:=f32.tr0 f'
 refine⟨_,rfl,?_⟩
 refine kind_step kr ho33 (by decide +kernel) (by decide +kernel) rfl (.inr hn) fun l h34 kr ho34 f'=>?_
 have f34:=fr_set f33 hn f'
 refine⟨_,rfl,?_⟩
 refine kind_step kr ho34 (by decide +kernel) (by decide +kernel) rfl (.inr hn) fun l h35 kr ho35 f'=>?_
 have f35:=fr_set f34 hn f'
 refine⟨fun _=>False,fun _ h=>h.elim,last_ok fun v36 h36 hv f'=>?_⟩
 obtain⟨_,_,_,rfl⟩:=hv
 have ho36:=f'.ob0 ho35
 have f36:=f35.tr0 f'
 refine⟨_,rfl,?_⟩
 refine kind_step kr ho36 (by decide +kernel) (by decide +kernel) rfl (.inr hn) fun l h37 kr ho37 f'=>?_
 have f37:=fr_set f36 hn f'
 refine⟨_,rfl,?_⟩
 refine kind_step kr ho37 (by decide +kernel) (by decide +kernel) rfl (.inr hn) fun l h38 kr ho38 f'=>?_
 have f38:=fr_set f37 hn f'
 refine⟨fun _=>False,fun _ h=>h.elim,last_ok fun v39 h39 hv f'=>?_⟩
 obtain⟨_,_,_,rfl⟩:=hv
 have ho39:=f'.ob0 ho38
 have f39:=f38.tr0 f'
 refine⟨_,rfl,?_⟩
 refine kind_step kr ho39 (by decide +kernel) (by decide +kernel) rfl (.inr hn) fun l h40 kr ho40 f'=>?_
 have f40:=fr_set f39 hn f'
 refine⟨fun _=>False,fun _ h=>h.elim,last_ok fun v41 h41 hv f'=>?_⟩
 obtain⟨_,_,_,rfl⟩:=hv
 have ho41:=f'.ob0 ho40
 have f41:=f40.tr0 f'
 refine⟨_,rfl,?_⟩
 refine kind_step kr ho41 (by decide +kernel) (by decide +kernel) rfl (.inr hn) fun l h42 kr ho42 f'=>?_
 have f42:=fr_set f41 hn f'
 refine⟨fun _=>False,fun _ h=>h.elim,swapped_ok fun v43 h43 hv f'=>?_⟩
 obtain⟨_,_,_,rfl⟩:=hv
 have ho43:=f'.ob0 ho42
 have f43:=f42.tr0 f'
 refine⟨_,rfl,?_⟩
 refine kind_step kr ho43 (by decide +kernel) (by decide +kernel) rfl (.inr hn) fun l h44 kr ho44 f'=>?_
 have f44:=fr_set f43 hn f'
 refine⟨fun _=>False,fun _ h=>h.elim,swapped_ok fun v45 h45 hv f'=>?_⟩
 obtain⟨_,_,_,rfl⟩:=hv
 have ho45:=f'.ob0 ho44
 have f45:=f44.tr0 f'
 refine⟨_,rfl,?_⟩
 refine kind_step kr ho45 (by decide +kernel) (by decide +kernel) rfl (.inr hn) fun l h46 kr ho46 f'=>?_
 have f46:=fr_set f45 hn f'
 refine⟨fun _=>False,fun _ h=>h.elim,swapped_ok fun v47 h47 hv f'=>?_⟩
 obtain⟨_,_,_,rfl⟩:=hv
 have ho47:=f'.ob0 ho46
 have f47:=f46.tr0 f'
 refine⟨_,rfl,?_⟩
 refine kind_step kr ho47 (by decide +kernel) (by decide +kernel) rfl (.inr hn) fun l h48 kr ho48 f'=>?_
 have f48:=fr_set f47 hn f'
 refine⟨fun _=>False,fun _ h=>h.elim,swapped_ok fun v49 h49 hv f'=>?_⟩
 obtain⟨_,_,_,rfl⟩:=hv
 have ho49:=f'.ob0 ho48
 have f49:=f48.tr0 f'
 refine⟨_,rfl,?_⟩
 refine kind_step kr ho49 (by decide +kernel) (by decide +kernel) rfl (.inr hn) fun l h50 kr ho50 f'=>?_
 have f50:=fr_set f49 hn f'
 refine⟨fun _=>False,fun _ h=>h.elim,last_ok fun v51 h51 hv f'=>?_⟩
 obtain⟨_,_,_,rfl⟩:=hv
 have ho51:=f'.ob0 ho50
 have f51:=f50.tr0 f'
 refine⟨_,rfl,?_⟩
 refine kind_step kr ho51 (by decide +kernel) (by decide +kernel) rfl (.inr hn) fun l h52 kr ho52 f'=>?_
 have f52:=fr_set f51 hn f'
 refine⟨fun _=>False,fun _ h=>h.elim,swapped_ok fun v53 h53 hv f'=>?_⟩
 obtain⟨_,_,_,rfl⟩:=hv
 have ho53:=f'.ob0 ho52
 have f53:=f52.tr0 f'
 refine⟨_,rfl,?_⟩
 refine kind_step kr ho53 (by decide +kernel) (by decide +kernel) rfl (.inr hn) fun l h54 kr ho54 f'=>?_
 have f54:=fr_set f53 hn f'
 exact hR _ _ _ ho54 kr f54
end
def arityT(n:ByteArray):Int:=match gateTab.find? (fun x=>decide (x.1=n)) with |some x=>x.2.1 |none=>0
def halvesT(n:ByteArray):Int:=match gateTab.find? (fun x=>decide (x.1=n)) with |some x=>x.2.2 |none=>0
section
variable {h:AH} {M:Nat->Prop} {R:AE->AH->Prop}
theorem arity_ok{n:ByteArray}(hR:∀h',Fr h h' (fun _=>False)->R (.ret (I (arityT n))) h'):ACalls Try.prog 57 [Sb n] h M R:=by
 apply F57.callsN
 unfold F57.n2 F57.n1
 refine⟨fun _=>False,fun _ h=>h.elim,kinds_ok fun m l h1 ho kr f1=>?_⟩
 refine look_k (enc:=Sb) key9 z135 ho fun _=>?_
 have hg:=kr.get n
 unfold arityT at hR
 cases hf:gateTab.find? (fun x=>decide (x.1=n)) with
 |none=>
  rw[hf]at hg hR
  simp only at hg
  rw[hg]
  simp[lookV,pFdV]
  exact hR h1 f1
 |some x=>
  rw[hf]at hg hR
  obtain⟨c,d,v,hg,_⟩:=hg
  rw[hg]
  simp[lookV,pFdV]
  exact hR h1 f1
theorem halves_ok{n:ByteArray}(hR:∀h',Fr h h' (fun _=>False)->R (.ret (I (halvesT n))) h'):ACalls Try.prog 59 [Sb n] h M R:=by
 apply F59.callsN
 unfold F59.n2 F59.n1
 refine⟨fun _=>False,fun _ h=>h.elim,kinds_ok fun m l h1 ho kr f1=>?_⟩
 refine look_k (enc:=Sb) key9 z135 ho fun _=>?_
 have hg:=kr.get n
 unfold halvesT at hR
 cases hf:gateTab.find? (fun x=>decide (x.1=n)) with
 |none=>
  rw[hf]at hg hR
  simp only at hg
  rw[hg]
  simp[lookV,pFdV]
  exact hR h1 f1
 |some x=>
  rw[hf]at hg hR
  obtain⟨c,d,v,hg,_⟩:=hg
  rw[hg]
  simp[lookV,pFdV]
  exact hR h1 f1
end
end
section
open Go.Ab
attribute [-simp] eAlloc_d eStore_f
section
variable {h:AH} {M:Nat->Prop} {R:AE->AH->Prop}
def idxN{α:Type}[DecidableEq α](x:α):List α->Nat->Option Nat
 |[],_=>none
 |a::l,i=>if x=a then some i else idxN x l (i+1)
end
end
section
open Go.Ab
attribute [-simp] eAlloc_d eStore_f
def encI(n:Int):List AV:=[I n]
theorem encI_len(n:Int):(encI n).length=1:=rfl
def memB{α:Type}[DecidableEq α](x:α)(l:List α):Bool:=(idxN x l 0).isSome
theorem idxN_some{α:Type}[DecidableEq α]{x:α}:∀{l:List α}{i j:Nat},idxN x l i=some j->i<=j/\x∈l
 |a::l,i,j,h=>by
  simp only[idxN]at h
  split at h
  ·rename_i e;cases h;exact⟨zU _,by rw[e];simp⟩
  ·have:=idxN_some h;exact⟨by omega,by simp[this.2]⟩
theorem idxN_none{α:Type}[DecidableEq α]{x:α}:∀{l:List α}{i:Nat},idxN x l i=none->x∉l
 |[],_,_=>by simp
 |a::l,i,h=>by
  simp only[idxN]at h
  split at h
  ·cases h
  ·rename_i e
   have:=idxN_none h
   simp only[List.mem_cons,not_or]
   exact⟨e,this⟩
section
variable {h:AH} {M:Nat->Prop} {R:AE->AH->Prop}
theorem index_int{x:AV}{l:List Int}{q:Int}(hx:SlR encI 1 3 h x l)(hl:l.length<=9223372036854775807)(hR:R (.ret (I (match idxN q l 0 with |some j=>j |none=>-1))) h):ACalls Try.prog 74 [x,I q] h M R:=by
 apply F74.callsN
 simp only[F74.n11,F74.n10,hx.len.1,hx.len.2,zH]
 unfold F74.n9
 refine vLoop_of (ι:=Nat) (fun i v h'=>v=[x,I q,I l.length,I i]/\i<=l.length/\h'=h/\idxN q (l.drop i) i=idxN q l 0) (fun i=>l.length-i) 0 ⟨rfl,by omega,rfl,rfl⟩ ?_
 rintro K i v h' ⟨rfl,hi,rfl,he⟩ hK
 simp only[F74.g1_,zN,zO]
 by_cases hlt:i<l.length
 ·have hli:(i:Int)<l.length:=by omega
  have g1:l[i]?=some l[i]:=zJ hlt
  have w1:IntKind.i64.wrap ((i:Int)+1)=((i+1:Nat):Int):=by rw[wrap_in (by omega) (by omega)];simp
  rw[List.drop_eq_getElem_cons hlt]at he
  simp only[idxN]at he
  generalize l[i]=y at *
  simp only[F74.n8,pBin_lss,zL hli,F74.n7,aIf_b,zD,zF,zC,zI,F74.n6,F74.n5]
  refine rng_one hx encI_len g1 rfl fun _=>?_
  rw[pBin_eql]
  by_cases e:q=y
  ·rw[zX e]at he
   rw[<-he]at hR
   simp only[beq_iff_eq.2 e,F74.n4,aIf_b,zD,zF,zC,zI,F74.n3]
   simpa using hR
  ·rw[zW e]at he
   simp only[beq_eq_false_iff_ne.2 e,F74.n4,aIf_b,zD,zE,zC,zH,F74.n2,pBin_add,w1]
   exact hK (i+1) _ _ (by omega) ⟨rfl,by omega,rfl,he⟩
 ·have hnl:¬(i:Int)<l.length:=by omega
  rw[List.drop_of_length_le (by omega)]at he
  rw[<-he]at hR
  simp only[F74.n8,pBin_lss,zK hnl,F74.n7,aIf_b,zD,zE,zC,zH,zV,F74.n1]
  simpa[idxN] using hR
theorem contains_int{x:AV}{l:List Int}{q:Int}(hx:SlR encI 1 3 h x l)(hl:l.length<=9223372036854775807)(hR:R (.ret (B (memB q l))) h):ACalls Try.prog 58 [x,I q] h M R:=by
 apply F58.callsN
 unfold F58.n2 F58.n1
 refine⟨fun _=>False,fun _ h=>h.elim,index_int hx hl ?_⟩
 unfold memB at hR
 simp only[pBin_geq]
 cases hj:idxN q l 0 with
 |some j=>
  rw[hj]at hR
  have h1:(0:Int)<=j:=by omega
  simp only[ge_iff_le,zL h1]
  simpa using hR
 |none=>
  rw[hj]at hR
  simpa using hR
end
end
section
open Go.Ab
attribute [-simp] eAlloc_d eStore_f
structure COp where
 kind:Int
 name:ByteArray
 qubits:List Int
 bit:Int
 cond:Bool
 mask:Int
 value:Int
def encO(y:COp×AV):List AV:=[I y.1.kind,Sb y.1.name,y.2,I y.1.bit,B y.1.cond,U y.1.mask,U y.1.value]
theorem encO_len(y:COp×AV):(encO y).length=7:=rfl
theorem encO_one{y:COp×AV}(h:oneA y.2=true):(encO y).all oneA=true:=by
 show(true&&(true&&(oneA y.2&&(true&&(true&&(true&&(true&&true)))))))=true
 rw[h];rfl
def andN(a b:Int):Int:=IntKind.u64.wrap (BitVec.ofInt IntKind.u64.bits a &&& ~~~ BitVec.ofInt IntKind.u64.bits b).toNat
def bitsM(b:Int):Int:=IntKind.u64.wrap (IntKind.u64.wrap (1*2^(min b.toNat IntKind.u64.bits))-1)
def bitsP(b:Int):Int:=if b=64 then 18446744073709551615 else bitsM b
def badOp(b:Int)(o:COp):Bool:=!(o.kind==1||o.kind==2||o.kind==3)||(o.cond&&o.mask==0)||(!o.cond&&(o.mask != 0||o.value != 0))||(andN o.mask (bitsP b) != 0)||(andN o.value o.mask != 0)
def badName(o:COp):Bool:=(o.kind != 1&&!decide (o.name=ByteArray.empty))||(o.kind != 2&&o.bit != 0)
def nqP(o:COp):Int:=if o.kind=1 then arityT o.name else 1
def outB(q:Int)(l:List Int):Bool:=l.any fun z=>decide (z<0)||decide (q<=z)
def dupB(l:List Int):Bool:=(List.range l.length).any fun i=>memB (l.getD i 0) (l.take i)
def faultP(q b:Int)(o:COp):Int:=
 if badOp b o then 120 else if badName o then 120 else if o.kind=1/\arityT o.name=0 then 80 else if (o.qubits.length:Int)≠nqP o then 111
 else if outB q o.qubits then 112 else if o.kind=2/\(o.bit<0\/b<=o.bit) then 112 else if dupB o.qubits then 113 else 0
theorem dup_at{l:List Int}{i:Nat}(hi:i<l.length)(h:memB l[i] (l.take i)=true):dupB l=true:=by
 unfold dupB
 rw[List.any_eq_true]
 exact⟨i,List.mem_range.2 hi,by rw[List.getD_eq_getElem?_getD,zJ hi];exact h⟩
theorem dup_no{l:List Int}(h:∀i (hi:i<l.length),memB l[i] (l.take i)=false):dupB l=false:=by
 unfold dupB
 rw[List.any_eq_false]
 intro i hi
 have:=List.mem_range.1 hi
 rw[List.getD_eq_getElem?_getD,zJ this]
 simp only[Option.getD_some,h i this]
 decide
theorem out_at{q:Int}{l:List Int}{i:Nat}(hi:i<l.length)(h:l[i]<0\/q<=l[i]):outB q l=true:=by
 unfold outB
 rw[List.any_eq_true]
 exact⟨l[i],List.getElem_mem hi,by simpa using h⟩
theorem out_no{q:Int}{l:List Int}(h:∀i (hi:i<l.length),¬(l[i]<0\/q<=l[i])):outB q l=false:=by
 unfold outB
 rw[List.any_eq_false]
 intro z hz
 obtain⟨i,hi,rfl⟩:=List.mem_iff_getElem.1 hz
 simpa using h i hi
theorem SlR_take{α:Type}{f:α->List AV}{sz:Nat}{ty:TypeId}{h:AH}{x:AV}{l:List α}{K:AV->Prop}(hx:SlR f sz ty h x l){i:Nat}(hi:i<l.length)
  (hK:∀y,SlR f sz ty h y (l.take i)->K y):pSlL (some sz) x none (some (I i)) h K:=by
 rcases hx with⟨_,rfl⟩ |⟨_,_,_,rfl⟩ |⟨id,rest,ro,ty',rfl,h1,h2⟩
 ·simp at hi
 ·simp at hi
 ·refine cut_ok (by omega) (hK _ (.inr (.inr ⟨id,(l.drop i).flatMap f++rest,ro,ty',by rw[yA,Nat.min_eq_left (by omega)],h1,?_⟩)))
  rw[h2,<-List.append_assoc,<-List.flatMap_append,List.take_append_drop]
section
variable {W:Nat->Prop} {QR QN:VK} {QE:Nat->VK} {QP:AV->AH->Prop} {h:AH} {vc vo:Nat} {q b:Int} {xops xa:AV} {o:COp}
theorem F40_dup(ho:h.obj vo=some (mkO (encO (o,xa)) 7 45))(hq:SlR encI 1 3 h xa o.qubits)(hl:o.qubits.length<=9223372036854775807)
  (hR:QR [I (if dupB o.qubits then 113 else 0)] h):F40.n10 W QR QN QE QP (.ptr vo 0) h:=by
 unfold F40.n10
 simp only[pFld_ptr,lLd_f,ho,ldk_mk,zG,encO,zB,zA,cellK_some,hq.len.1,hq.len.2,zH]
 unfold F40.n9
 refine vLoop_of (ι:=Nat) (fun i v h'=>v=[.ptr vo 0,xa,I o.qubits.length,I i]/\i<=o.qubits.length/\h'=h/\∀j (hj:j<o.qubits.length),j<i->memB o.qubits[j] (o.qubits.take j)=false) (fun i=>o.qubits.length-i) 0 ⟨rfl,by omega,rfl,fun j _ h=>by omega⟩ ?_
 rintro K i v h' ⟨rfl,hi,rfl,hb⟩ hK
 simp only[F40.g1_,zN,zO]
 by_cases hlt:i<o.qubits.length
 ·have hli:(i:Int)<o.qubits.length:=by omega
  have g1:o.qubits[i]?=some o.qubits[i]:=zJ hlt
  have w1:IntKind.i64.wrap ((i:Int)+1)=((i+1:Nat):Int):=by rw[wrap_in (by omega) (by omega)];simp
  have key:=fun hh=>dup_at (l:=o.qubits) hlt hh
  have hb':memB o.qubits[i] (o.qubits.take i)=false->∀j (hj:j<o.qubits.length),j<i+1->memB o.qubits[j] (o.qubits.take j)=false:=fun h0 j hj hji=>by
   rcases Nat.lt_succ_iff_lt_or_eq.1 hji with h1 |h1
   ·exact hb j hj h1
   ·subst h1;exact h0
  generalize o.qubits[i]=y at *
  simp only[F40.n8,pBin_lss,zL hli,F40.n7,aIf_b,zD,zF,zC,zI,F40.n6]
  refine rng_one hq encI_len g1 rfl fun _=>?_
  simp only[F40.n5,pFld_ptr,lLd_f,ho,ldk_mk,zG,encO,zB,zA,cellK_some]
  refine SlR_take hq hlt fun z hz=>?_
  refine⟨fun _=>False,fun _ h=>h.elim,contains_int hz (by rw[yA];omega) ?_⟩
  cases hm:memB y (o.qubits.take i) with
  |true=>
   rw[key hm]at hR
   simpa using hR
  |false=>
   simp only[F40.n4,aIf_b,zE,zC,zD,zH,F40.n2,pBin_add,w1]
   exact hK (i+1) _ _ (by omega) ⟨rfl,by omega,rfl,hb' hm⟩
 ·have hnl:¬(i:Int)<o.qubits.length:=by omega
  rw[dup_no fun j hj=>hb j hj (by omega)]at hR
  simpa[hnl] using hR
theorem F40_bit(hc:h.obj vc=some (mkO [I q,I b,xops] 3 24))(ho:h.obj vo=some (mkO (encO (o,xa)) 7 45))(hq:SlR encI 1 3 h xa o.qubits)(hl:o.qubits.length<=9223372036854775807)
  (hR:QR [I (if o.kind=2/\(o.bit<0\/b<=o.bit) then 112 else if dupB o.qubits then 113 else 0)] h):F40.n17 W QR QN QE QP (.ptr vc 0) (.ptr vo 0) h:=by
 have fin:∀c:Bool,c=decide (o.kind=2/\(o.bit<0\/b<=o.bit))->F40.n12 W QR QN QE QP (.ptr vo 0) (B c) h:=fun c hcc=>by
  cases c with
  |true=>
   rw[zX (of_decide_eq_true hcc.symm)]at hR
   simpa[F40.n12] using hR
  |false=>
   rw[zW (of_decide_eq_false hcc.symm)]at hR
   simp only[F40.n12,aIf_b,zE,zC,zD,zH]
   exact F40_dup ho hq hl hR
 have f1:=fin _ rfl
 by_cases k1:o.kind=2
 ·by_cases k2:o.bit<0
  ·simp[-F40.n12,k1,k2]at f1
   simp[-F40.n12,ho,hc,encO,k1,k2]
   exact f1
  ·by_cases k3:b<=o.bit
   ·simp[-F40.n12,k1,k2,k3]at f1
    simp[-F40.n12,ho,hc,encO,k1,k2,k3]
    exact f1
   ·simp[-F40.n12,k1,k2,k3]at f1
    simp[-F40.n12,ho,hc,encO,k1,k2,k3]
    exact f1
 ·simp[-F40.n12,k1]at f1
  have k1':(o.kind==2)=false:=by simpa using k1
  simp[-F40.n12,ho,hc,encO,k1']
  exact f1
theorem F40_out(hc:h.obj vc=some (mkO [I q,I b,xops] 3 24))(ho:h.obj vo=some (mkO (encO (o,xa)) 7 45))(hq:SlR encI 1 3 h xa o.qubits)(hl:o.qubits.length<=9223372036854775807)
  (hR:QR [I (if outB q o.qubits then 112 else if o.kind=2/\(o.bit<0\/b<=o.bit) then 112 else if dupB o.qubits then 113 else 0)] h):F40.n28 W QR QN QE QP (.ptr vc 0) (.ptr vo 0) h:=by
 unfold F40.n28
 simp only[pFld_ptr,lLd_f,ho,ldk_mk,zG,encO,zB,zA,cellK_some,hq.len.1,hq.len.2,zH]
 unfold F40.n27
 refine vLoop_of (ι:=Nat) (fun i v h'=>v=[.ptr vc 0,.ptr vo 0,xa,I o.qubits.length,I i]/\i<=o.qubits.length/\h'=h/\∀j (hj:j<o.qubits.length),j<i->¬(o.qubits[j]<0\/q<=o.qubits[j])) (fun i=>o.qubits.length-i) 0 ⟨rfl,by omega,rfl,fun j _ h=>by omega⟩ ?_
 rintro K i v h' ⟨rfl,hi,rfl,hb⟩ hK
 simp only[F40.g2_,zN,zO]
 by_cases hlt:i<o.qubits.length
 ·have hli:(i:Int)<o.qubits.length:=by omega
  have g1:o.qubits[i]?=some o.qubits[i]:=zJ hlt
  have w1:IntKind.i64.wrap ((i:Int)+1)=((i+1:Nat):Int):=by rw[wrap_in (by omega) (by omega)];simp
  have key:=fun hh=>out_at (q:=q) (l:=o.qubits) hlt hh
  have hb':¬(o.qubits[i]<0\/q<=o.qubits[i])->∀j (hj:j<o.qubits.length),j<i+1->¬(o.qubits[j]<0\/q<=o.qubits[j]):=fun h0 j hj hji=>by
   rcases Nat.lt_succ_iff_lt_or_eq.1 hji with h1 |h1
   ·exact hb j hj h1
   ·subst h1;exact h0
  generalize o.qubits[i]=y at *
  simp only[F40.n26,pBin_lss,zL hli,F40.n25,aIf_b,zD,zF,zC,zI]
  unfold F40.n24
  refine rng_one hq encI_len g1 rfl fun _=>?_
  by_cases k1:y<0
  ·rw[key (.inl k1)]at hR
   simp[F40.n23,F40.n22,F40.n21,F40.n20,k1]
   simpa using hR
  ·by_cases k2:q<=y
   ·rw[key (.inr k2)]at hR
    simp[F40.n23,F40.n22,F40.n21,F40.n20,k1,hc,k2]
    simpa using hR
   ·simp[F40.n23,F40.n22,F40.n21,F40.n20,k1,hc,k2,w1]
    exact hK (i+1) _ _ (by omega) ⟨rfl,by omega,rfl,hb' (by omega)⟩
 ·have hnl:¬(i:Int)<o.qubits.length:=by omega
  rw[out_no fun j hj=>hb j hj (by omega)]at hR
  simp[-F40.n17,hnl]
  exact F40_bit hc ho hq hl (by simpa using hR)
def tailP(q b:Int)(o:COp):Int:=if outB q o.qubits then 112 else if o.kind=2/\(o.bit<0\/b<=o.bit) then 112 else if dupB o.qubits then 113 else 0
theorem F40_len(hc:h.obj vc=some (mkO [I q,I b,xops] 3 24))(ho:h.obj vo=some (mkO (encO (o,xa)) 7 45))(hq:SlR encI 1 3 h xa o.qubits)(hl:o.qubits.length<=9223372036854775807){n:Int}
  (hR:QR [I (if (o.qubits.length:Int)≠n then 111 else tailP q b o)] h):F40.n31 W QR QN QE QP (.ptr vc 0) (.ptr vo 0) (I n) h:=by
 unfold F40.n31
 simp only[pFld_ptr,lLd_f,ho,ldk_mk,zG,encO,zB,zA,cellK_some,hq.len.1,hq.len.2,zH,pBin_neq,int_bne]
 by_cases k:(o.qubits.length:Int)=n
 ·rw[zW (by simpa using k)]at hR
  rw[zL k]
  simp only[F40.n30,aIf_b,zS,zE,zC,zD,zH]
  exact F40_out hc ho hq hl hR
 ·rw[zX k]at hR
  rw[zK k]
  simpa[F40.n30] using hR
theorem F40_gate(hc:h.obj vc=some (mkO [I q,I b,xops] 3 24))(ho:h.obj vo=some (mkO (encO (o,xa)) 7 45))(hq:SlR encI 1 3 h xa o.qubits)(hl:o.qubits.length<=9223372036854775807)
  (hR:∀h',Fr h h' (fun _=>False)->QR [I (if o.kind=1/\arityT o.name=0 then 80 else if (o.qubits.length:Int)≠nqP o then 111 else tailP q b o)] h'):F40.n38 W QR QN QE QP (.ptr vc 0) (.ptr vo 0) h:=by
 unfold F40.n38 F40.n37
 simp only[pFld_ptr,lLd_f,ho,ldk_mk,zG,encO,zB,zA,cellK_some,pBin_eql]
 unfold nqP at hR
 by_cases k:o.kind=1
 ·have k':(o.kind==1)=true:=by simpa using k
  rw[k']
  simp only[F40.n36,aIf_b,zF,zC,zD,zI,F40.n35,pFld_ptr,lLd_f,ho,ldk_mk,zG,encO,zB,zA,cellK_some]
  refine⟨fun _=>False,fun _ h=>h.elim,arity_ok fun h1 f1=>?_⟩
  have hR:=hR h1 f1
  by_cases k2:arityT o.name=0
  ·rw[zX ⟨k,k2⟩]at hR
   simpa[F40.n34,F40.n33,k2] using hR
  ·rw[zW (fun h=>k2 h.2),zX k]at hR
   have k2':(arityT o.name==0)=false:=by simpa using k2
   simp only[F40.n34,pBin_eql,k2',F40.n33,aIf_b,zE,zC,zD,zH]
   exact F40_len (f1.ob0 hc) (f1.ob0 ho) (hq.fr0 f1) hl hR
 ·have k':(o.kind==1)=false:=by simpa using k
  rw[k']
  have hR:=hR h Fr.refl
  rw[zW (fun h=>k h.1),zW k]at hR
  simp only[F40.n36,aIf_b,zE,zC,zD,zH]
  exact F40_len hc ho hq hl hR
theorem F40_name(hc:h.obj vc=some (mkO [I q,I b,xops] 3 24))(ho:h.obj vo=some (mkO (encO (o,xa)) 7 45))(hq:SlR encI 1 3 h xa o.qubits)(hl:o.qubits.length<=9223372036854775807)
  (hR:∀h',Fr h h' (fun _=>False)->QR [I (if badName o then 120 else if o.kind=1/\arityT o.name=0 then 80 else if (o.qubits.length:Int)≠nqP o then 111 else tailP q b o)] h'):F40.n48 W QR QN QE QP (.ptr vc 0) (.ptr vo 0) h:=by
 have fin:∀c:Bool,c=badName o->F40.n41 W QR QN QE QP (.ptr vc 0) (.ptr vo 0) (B c) h:=fun c hcc=>by
  rw[<-hcc]at hR
  cases c with
  |true=>simpa[F40.n41] using hR h Fr.refl
  |false=>
   simp only[F40.n41,aIf_b,zE,zC,zD,zH]
   exact F40_gate hc ho hq hl hR
 have f1:=fin _ rfl
 unfold badName at f1
 have e0:(⟨#[]⟩:ByteArray)=ByteArray.empty:=rfl
 revert f1
 cases k1:(o.kind==1)<;>by_cases k2:o.name=ByteArray.empty<;>cases k3:(o.kind==2)<;>cases k4:(o.bit==0)<;>intro f1 <;>
  simp[-F40.n41,bne,k1,k2,k3,k4]at f1<;>simp[-F40.n41,bne,ho,hc,encO,k1,k2,k3,k4,e0]<;>exact f1
end
end
section
open Go.Ab
attribute [-simp] eAlloc_d eStore_f
section
variable {W:Nat->Prop} {QR QN:VK} {QE:Nat->VK} {QP:AV->AH->Prop} {h:AH} {vc vo:Nat} {q b:Int} {xops xa:AV} {o:COp}
theorem pBin_andN{t:TypeId}{c:Bool}{x y:Int}{K:AV->Prop}:pBin Try.prog .andNot t c (U x) (U y) K=K (U (andN x y)):=by
 simp[pBin,andN]
theorem F40_mask{kn:Bool}(ho:h.obj vo=some (mkO (encO (o,xa)) 7 45))
  (hK:F40.n49 W QR QN QE QP (.ptr vc 0) (.ptr vo 0) (B (!kn||(o.cond&&o.mask==0)||(!o.cond&&(o.mask != 0||o.value != 0))||(andN o.mask (bitsP b) != 0)||(andN o.value o.mask != 0))) h):F40.n63 W QR QN QE QP (.ptr vc 0) (.ptr vo 0) (B kn) (U (bitsP b)) h:=by
 revert hK
 cases kn with
 |false=>intro hK;simp[-F40.n49]at hK;simp[-F40.n49];exact hK
 |true=>
  cases k1:o.cond<;>cases k2:(o.mask==0)<;>cases k3:(o.value==0)<;>cases k4:(andN o.mask (bitsP b)==0)<;>cases k5:(andN o.value o.mask==0)<;>intro hK <;>
   simp[-F40.n49,bne,k1,k2,k3,k4,k5]at hK<;>simp[-F40.n49,bne,ho,encO,k1,k2,k3,k4,k5,pBin_andN]<;>exact hK
theorem F40_bits{kn:Bool}(hb:0<=b)(hc:h.obj vc=some (mkO [I q,I b,xops] 3 24))(hK:F40.n63 W QR QN QE QP (.ptr vc 0) (.ptr vo 0) (B kn) (U (bitsP b)) h):F40.n66 W QR QN QE QP (.ptr vc 0) (.ptr vo 0) (B kn) h:=by
 unfold bitsP at hK
 by_cases k:b=64
 ·rw[zX k]at hK
  subst k
  simp[-F40.n63,hc,pBin]
  exact hK
 ·rw[zW k]at hK
  have k':(b==64)=false:=by simpa using k
  simp only[F40.n66,pFld_ptr,lLd_f,hc,ldk_mk,zG,zB,zA,cellK_some,pBin,hb,zH,F40.n65,k',F40.n64,aIf_b,zE,zC,zD]
  exact hK
theorem F40_known(hb:0<=b)(hc:h.obj vc=some (mkO [I q,I b,xops] 3 24))(ho:h.obj vo=some (mkO (encO (o,xa)) 7 45))
  (hK:F40.n49 W QR QN QE QP (.ptr vc 0) (.ptr vo 0) (B (badOp b o)) h):F40.n71 W QR QN QE QP (.ptr vc 0) (.ptr vo 0) h:=by
 have f1:F40.n66 W QR QN QE QP (.ptr vc 0) (.ptr vo 0) (B (o.kind==1||o.kind==2||o.kind==3)) h:=F40_bits hb hc (F40_mask ho hK)
 revert f1
 cases k1:(o.kind==1)<;>cases k2:(o.kind==2)<;>cases k3:(o.kind==3)<;>intro f1<;>simp[-F40.n66]at f1<;>simp[-F40.n66,ho,encO,k1,k2,k3]<;>exact f1
end
section
variable {M:Nat->Prop} {R:AE->AH->Prop} {h:AH}
theorem fault_ok{q b:Int}{xops:AV}{y:COp×AV}(hb:0<=b)(hx:oneA xops=true/\avCells xops=some [xops])(hq:SlR encI 1 3 h y.2 y.1.qubits)(hl:y.1.qubits.length<=9223372036854775807)
  (hR:∀h',Fr h h' (fun _=>False)->R (.ret (I (faultP q b y.1))) h'):ACalls Try.prog 40 [.agg [I q,I b,xops],.agg (encO y)] h M R:=by
 apply F40.callsN
 unfold F40.n72
 refine box_var (by show(true&&(true&&(oneA xops&&true)))=true;rw[hx.1];rfl) fun vc h1 f1 hv1 oc=>?_
 refine box_var (encO_one hq.one.1) fun vo h2 f2 hv2 oo=>?_
 have f02:=f1.tr0 f2
 have oc2:=f2.ob0 oc
 obtain⟨o,xa⟩:=y
 refine F40_known hb oc2 oo ?_
 have fin:∀c:Bool,c=badOp b o->F40.n49 (fun id=>M id\/h.next<=id) (retV Try.prog [.tmp 4] R) (retV Try.prog [.tmp 4] R) (fun _ _ _=>False) (fun v h=>R (.pan v) h) (.ptr vc 0) (.ptr vo 0) (B c) h2:=fun c hcc=>by
  unfold faultP at hR
  rw[<-hcc]at hR
  cases c with
  |true=>simpa[F40.n49] using hR h2 f02
  |false=>
   simp only[F40.n49,aIf_b,zE,zC,zD,zH]
   refine F40_name oc2 oo (hq.fr0 f02) hl fun h3 f3=>?_
   simpa[tailP] using hR h3 (f02.tr0 f3)
 exact fin _ rfl
theorem opHalves_ok{y:COp×AV}(hq:oneA y.2=true)(hR:∀h',Fr h h' (fun _=>False)->R (.ret (I (if y.1.kind=1 then halvesT y.1.name else 0))) h'):ACalls Try.prog 41 [.agg (encO y)] h M R:=by
 apply F41.callsN
 unfold F41.n5
 refine box_var (encO_one hq) fun vo h1 f1 hv1 oo=>?_
 obtain⟨o,xa⟩:=y
 by_cases k:o.kind=1
 ·simp only[zX k]at hR
  have k':(o.kind != 1)=false:=by simp[k]
  simp only[F41.n4,pFld_ptr,lLd_f,oo,ldk_mk,zG,encO,zB,zA,cellK_some,pBin_neq,k',F41.n3,aIf_b,zE,zC,zD,zH,F41.n1]
  refine⟨fun _=>False,fun _ h=>h.elim,halves_ok fun h2 f2=>?_⟩
  simpa using hR h2 (f1.tr0 f2)
 ·simp only[zW k]at hR
  have k':(o.kind != 1)=true:=by simp[k]
  have:=hR h1 f1
  simpa[oo,encO,k'] using this
end
end
section
open Go.Ab
attribute [-simp] eAlloc_d eStore_f
structure OpsL (h:AH) (x:AV) (l:List (COp×AV)):Prop where
 tab:SlR encO 7 45 h x l
 qs:∀y∈l,SlR encI 1 3 h y.2 y.1.qubits
theorem OpsL.fr0{h h':AH}{x:AV}{l:List (COp×AV)}(a:OpsL h x l)(hf:Fr h h' fun _=>False):OpsL h' x l:=⟨a.tab.fr0 hf,fun y hy=>(a.qs y hy).fr0 hf⟩
def halvesP(o:COp):Int:=if o.kind=1 then halvesT o.name else 0
def checkGo(q b:Int):List COp->Nat->Int->Int×Int
 |[],_,_=>(0,0)
 |o::l,i,n=>if faultP q b o≠0 then(i,faultP q b o) else if 36<n+halvesP o then(i,116) else checkGo q b l (i+1) (n+halvesP o)
def checkP(q b:Int)(l:List COp):Int×Int:=if q<0\/64<q\/b<0\/64<b then(0,2) else if 4096<l.length then(0,115) else checkGo q b l 0 0
theorem halvesT_le(n:ByteArray):0<=halvesT n/\halvesT n<=1:=by
 unfold halvesT
 split
 ·rename_i x hx
  have h1:=List.mem_of_find?_eq_some hx
  have key:∀x∈gateTab,0<=x.2.2/\x.2.2<=1:=by decide +kernel
  exact key x h1
 ·omega
theorem halvesP_le(o:COp):0<=halvesP o/\halvesP o<=1:=by
 unfold halvesP
 split
 ·exact halvesT_le _
 ·omega
section
variable {W:Nat->Prop} {QR QN:VK} {QE:Nat->VK} {QP:AV->AH->Prop} {h:AH} {vc:Nat} {q b:Int} {x:AV} {l:List (COp×AV)}
abbrev res2(r:Int×Int):List AV:=[I r.1,I r.2]
theorem F22_loop(hW:∀id,h.next<=id->W id)(hb:0<=b)(hc:h.obj vc=some (mkO [I q,I b,x] 3 24))(hx:OpsL h x l)(hl:l.length<=4096)(hql:∀y∈l,y.1.qubits.length<=9223372036854775807)
  (hR:∀h',Fr h h' (fun _=>False)->QR (res2 (checkGo q b (l.map (·.1)) 0 0)) h'):F22.n15 W QR QN QE QP (.ptr vc 0) (I 0) h:=by
 unfold F22.n15
 simp only[pFld_ptr,lLd_f,hc,ldk_mk,zG,zB,zA,cellK_some,hx.tab.len.1,hx.tab.len.2,zH]
 unfold F22.n14
 refine vLoop_of (ι:=Nat×Int) (fun z v h'=>v=[.ptr vc 0,I z.2,x,I l.length,I z.1]/\z.1<=l.length/\Fr h h' (fun _=>False)/\0<=z.2/\z.2<=36/\checkGo q b ((l.drop z.1).map (·.1)) z.1 z.2=checkGo q b (l.map (·.1)) 0 0) (fun z=>l.length-z.1) (0,0) ⟨rfl,by simp,Fr.refl,by simp,by simp,by simp⟩ ?_
 rintro K ⟨i,n⟩ v h' ⟨rfl,hi,hf,hn0,hn1,he⟩ hK
 simp only at hi hn0 hn1 he hK
 simp only[F22.g1_,zN,zO]
 by_cases hlt:i<l.length
 ·have hli:(i:Int)<l.length:=by omega
  have g1:l[i]?=some l[i]:=zJ hlt
  have w1:IntKind.i64.wrap ((i:Int)+1)=((i+1:Nat):Int):=by rw[wrap_in (by omega) (by omega)];simp
  have hqy:=hx.qs _ (List.getElem_mem hlt)
  have hqn:=hql _ (List.getElem_mem hlt)
  rw[List.drop_eq_getElem_cons hlt,List.map_cons]at he
  simp only[checkGo]at he
  generalize l[i]=y at *
  simp only[F22.n13,pBin_lss,zL hli,F22.n12,aIf_b,zD,zF,zC,zI]
  unfold F22.n11
  refine rng_var (hx.tab.fr0 hf) encO_len (encO_one hqy.one.1) g1 rfl rfl (fun id hid=>hW id (zR hf.next hid)) fun vn h1 f1 hvn ov=>?_
  have f01:=hf.tr0 f1
  unfold F22.n10
  refine var_ld (f01.ob0 hc) rfl fun _=>?_
  refine var_ld ov rfl fun _=>?_
  refine⟨fun _=>False,fun _ h=>h.elim,fault_ok hb hx.tab.one (hqy.fr0 f01) hqn fun h2 f2=>?_⟩
  have f02:=f01.tr0 f2
  by_cases k:faultP q b y.1=0
  ·rw[zW (by simpa using k)]at he
   have k':(faultP q b y.1 != 0)=false:=by simp[k]
   simp only[F22.n9,pBin_neq,k',F22.n8,aIf_b,zE,zC,zD,zH]
   unfold F22.n6
   refine var_ld (f2.ob0 ov) rfl fun _=>?_
   refine⟨fun _=>False,fun _ h=>h.elim,opHalves_ok hqy.one.1 fun h3 f3=>?_⟩
   have f03:=f02.tr0 f3
   have hh:=halvesP_le y.1
   have wn:IntKind.i64.wrap (n+halvesP y.1)=n+halvesP y.1:=wrap_in (by omega) (by omega)
   show pBin _ _ _ _ (I n) (I (halvesP y.1)) _
   simp only[pBin_add,wn,F22.n5,pBin_gtr]
   by_cases k2:36<n+halvesP y.1
   ·rw[zX k2]at he
    have:=hR h3 f03
    rw[<-he]at this
    simp only[gt_iff_lt,zL k2,F22.n4,aIf_b,zD,zF,zC,zI]
    exact this
   ·rw[zW k2]at he
    simp only[gt_iff_lt,zK k2,F22.n4,aIf_b,zD,zE,zC,zH,F22.n2,pBin_add,w1]
    exact hK (i+1,n+halvesP y.1) _ _ (by simp only;omega) ⟨rfl,by simp only;omega,f03,by simp only;omega,by simp only;omega,he⟩
  ·rw[zX k]at he
   have k':(faultP q b y.1 != 0)=true:=by simp[k]
   have:=hR h2 f02
   rw[<-he]at this
   simp only[F22.n9,pBin_neq,k',F22.n8,aIf_b,zD,zF,zC,zI]
   exact this
 ·have hnl:¬(i:Int)<l.length:=by omega
  rw[List.drop_of_length_le (by omega)]at he
  have:=hR h' hf
  rw[<-he]at this
  simpa[hnl,checkGo] using this
end
section
variable {M:Nat->Prop} {R:AE->AH->Prop} {h:AH}
theorem check_ok{q b:Int}{x:AV}{l:List (COp×AV)}(hx:OpsL h x l)(hql:∀y∈l,y.1.qubits.length<=9223372036854775807)
  (hR:∀h',Fr h h' (fun _=>False)->R (.ret (.tup (res2 (checkP q b (l.map (·.1)))))) h'):ACalls Try.prog 22 [.agg [I q,I b,x]] h M R:=by
 apply F22.callsN
 unfold F22.n29
 refine box_var (by show(true&&(true&&(oneA x&&true)))=true;rw[hx.tab.one.1];rfl) fun vc h1 f1 hv1 oc=>?_
 unfold checkP at hR
 by_cases k1:q<0
 ·have:=hR h1 f1
  rw[zX (.inl k1)]at this
  simpa[oc,k1] using this
 by_cases k2:64<q
 ·have:=hR h1 f1
  rw[zX (.inr (.inl k2))]at this
  simpa[oc,k1,k2] using this
 by_cases k3:b<0
 ·have:=hR h1 f1
  rw[zX (.inr (.inr (.inl k3)))]at this
  simpa[oc,k1,k2,k3] using this
 by_cases k4:64<b
 ·have:=hR h1 f1
  rw[zX (.inr (.inr (.inr k4)))]at this
  simpa[oc,k1,k2,k3,k4] using this
 rw[zW (by omega),zZ]at hR
 simp[-F22.n19,oc,k1,k2,k3,k4]
 unfold F22.n19
 simp only[pFld_ptr,lLd_f,oc,ldk_mk,zG,zB,zA,cellK_some,hx.tab.len.1,hx.tab.len.2,zH,pBin_gtr,gt_iff_lt]
 by_cases k5:4096<l.length
 ·have:=hR h1 f1
  rw[zX k5]at this
  have k5':(4096:Int)<l.length:=by omega
  simpa[k5'] using this
 ·rw[zW k5]at hR
  have k5':¬(4096:Int)<l.length:=by omega
  simp only[zK k5',F22.n18,aIf_b,zE,zC,zD,zH,F22.n16]
  exact F22_loop (fun id hid=>.inr (zR f1.next hid)) (by omega) oc (hx.fr0 f1) (by omega) hql fun h2 f2=>hR h2 (f1.tr0 f2)
end
end
section
open Go.Ab
attribute [-simp] eAlloc_d eStore_f
end
section
open Go.Ab
attribute [-simp] eAlloc_d eStore_f
end
section
open Go.Ab
attribute [-simp] eAlloc_d eStore_f
def MOK(o:COp):Prop:=0<=o.mask/\o.mask<18446744073709551616/\0<=o.value/\o.value<18446744073709551616
end
end Go.Proofs.Ytbdibjgoeeokoaa
