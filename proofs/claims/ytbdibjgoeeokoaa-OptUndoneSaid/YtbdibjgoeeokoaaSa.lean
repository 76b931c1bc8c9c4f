/- slices.Values, AppendSeq, Sort, Collect and Sorted over numbers. No condition. -/
import Derived.Shelf.SlIterI.Collect
import Derived.Test.YtbdibjgoeeokoaaProg
import Derived.RangeFuncBox
import Derived.RangeFuncLeaves
import Derived.Shelf.Abstract
import Derived.WalkKit
import Derived.OwnWalkIn
import Derived.TacticsInMore
import Derived.LoopNIn
import Derived.LoopIn
import Derived.Shelf.SortM.Plain
import Derived.Test.YtbdibjgoeeokoaaOa
set_option maxRecDepth 100000
namespace Go.Proofs
section
open Go.Shelf
def Try.ap_ren:Go.Shelf.Ren:={ f:=fun x=>match x with |11=>94 |n=>n,t:=fun x=>match x with |0=>0 |24=>42 |26=>3 |28=>119 |33=>114 |n=>n,g:=fun n=>n }
theorem Try.apL:SlLaysZI.n11 Try.prog Try.ap_ren where
 mixed:=by kernel_rfl
 f11 := ⟨"slices.AppendSeq[[]int,int]", by decide, Try.func94.trans (congrArg some (by kernel_rfl))⟩
 t0:=Try.underlying0
 a0:=Try.isAgg0
 z0:=Try.sizeOf0
 v0:=Try.zeroValue0
 t24:=Try.underlying42
 a24:=Try.isAgg42
 z24:=Try.sizeOf42
 v24:=Try.zeroValue42
 t26:=Try.underlying3
 a26:=Try.isAgg3
 z26:=Try.sizeOf3
 v26:=Try.zeroValue3
 t28:=Try.underlying119
 a28:=Try.isAgg119
 z28:=Try.sizeOf119
 v28:=Try.zeroValue119
 i26:=by kernel_rfl
end
section
open Go.RowKit Go.Shelf
attribute [local go_sem] Oper.semAt_some
def Try.vI:Value->Int
 |.int _ q=>q
 |_=>0
def Try.upto{α:Type}(f:Nat->α)(k:Nat):List α:=(List.range k).map f
theorem Try.upto_succ{α:Type}(f:Nat->α)(k:Nat):Try.upto f (k+1)=Try.upto f k++[f k]:=by simp[Try.upto,List.range_succ]
theorem Try.upto_length{α:Type}(f:Nat->α)(k:Nat):(Try.upto f k).length=k:=by simp[Try.upto]
theorem Try.upto_all(zs:List Int):Try.upto (fun j=>zs[j]?.getD 0) zs.length=zs:=by
 apply List.ext_getElem
 ·simp[Try.upto]
 ·intro i h1 h2
  simp[Try.upto,h2]
set_option maxHeartbeats 2000000 in
theorem Try.values1_in(F:Fence)(n:Nat)(h7:F.fn 93)(hro:F.round=none)(hn:1<=n)(l Bs n₀ b off len cap:Nat)(zs:List Int)(hreach:len*8<=140737488351232)(hb:b<n₀)(J Jx:List Int->World->Prop)
  (hY:∀pre x W,J pre W->pre.length<len->YieldAt F (n-1) Try.prog l #[.int .i64 x] W fun e W'=>
   (e=.returned (.bool true)/\J (pre++[x]) W'/\Below n₀ W W')\/(e=.returned (.bool false)/\Jx (pre++[x]) W'))
  (W:World) (hBs:W.cell? ⟨Bs,0,none⟩=some (.slice (some ⟨b,off,none⟩) len cap)) (hc:∀j,j<len->W.cell? ⟨b,off+j,none⟩=some (.int .i64 (zs[j]?.getD 0))) (h0:J [] W) :
  CallsIn F n Try.prog 93 #[.func (.yield l) #[] #[],.pointer (some ⟨Bs,0,none⟩)] W fun e W'=>(∃v,e=.returned v) /\
   ((∃ys,ys=Try.upto (fun j=>zs[j]?.getD 0) len/\J ys W')\/(∃pre,(∃k,k<=len/\pre=Try.upto (fun j=>zs[j]?.getD 0) k)/\Jx pre W')):=by
 refine callsIn_of_wp Try.func93 rfl h7 ?_ hro
 simp only[Try.ntmps93,List.size_toArray,List.length_cons,List.length_nil,Nat.reduceAdd,Nat.reduceSub,Array.replicate_succ,Array.replicate_zero,List.push_toArray,List.append_toArray,List.nil_append,List.cons_append]
 gi_wp2
 gi_loopw [7] (fun i wr=>∃k:Nat,k<=len/\i=.int .i64 k/\J (Try.upto (fun j=>zs[j]?.getD 0) k) wr/\Below n₀ W wr)
  (fun i _=>len-(Try.vI i).toNat)
 case atStart=>exact⟨0,Nat.zero_le _,rfl,h0,Below.refl _ _⟩
 case round=>
  obtain⟨k,hk,rfl,hJs,hnx⟩:=hrel
  have hcx:k<len->wr.cell? ⟨b,off+k,none⟩=some (.int .i64 (zs[k]?.getD 0)):=fun h=>(hnx.cell (p:=⟨b,off+k,none⟩) hb).trans (hc k h)
  by_cases hlt:k<len
  ·obtain⟨fn,tmps,assign,body,hy,hR⟩:=hY _ (zs[k]?.getD 0) wr hJs (by rw[Try.upto_length];exact hlt)
   have hcx':=hcx hlt
   gi_wp2
   refine hR.mono ?_
   rintro e W3 (⟨rfl,hJ3,hk3⟩ |⟨rfl,hJx3⟩)
   ·
    gi_wp2
    go_roundw
    case rel=>exact⟨k+1,by omega,by simp,by rw[Try.upto_succ];exact hJ3,hnx.trans hk3⟩
    case measure=>simp[Try.vI];omega
   ·gi_wp2
    refine bodyPost_ret (results_none rfl _ _ _) rfl ?_
    exact⟨⟨_,rfl⟩,.inr ⟨_,⟨k+1,by omega,(Try.upto_succ _ _).symm⟩,hJx3⟩⟩
  ·obtain rfl:k=len:=by omega
   gi_wp2
   go_end0
   exact⟨⟨_,rfl⟩,.inl ⟨_,rfl,hJs⟩⟩
set_option maxHeartbeats 1000000 in
theorem Try.values1_nil_in(F:Fence)(n:Nat)(h7:F.fn 93)(hro:F.round=none)(l Bs:Nat)(J:List Int->World->Prop)(W:World)(hBs:W.cell? ⟨Bs,0,none⟩=some (.slice none 0 0))(h0:J [] W) :
  CallsIn F n Try.prog 93 #[.func (.yield l) #[] #[],.pointer (some ⟨Bs,0,none⟩)] W fun e W'=>(∃v,e=.returned v)/\J [] W':=by
 refine callsIn_of_wp Try.func93 rfl h7 ?_ hro
 simp only[Try.ntmps93,List.size_toArray,List.length_cons,List.length_nil,Nat.reduceAdd,Nat.reduceSub,Array.replicate_succ,Array.replicate_zero,List.push_toArray,List.append_toArray,List.nil_append,List.cons_append]
 gi_wp2
 gi_loopw [7] (fun i wr=>i=.int .i64 0/\J [] wr) (fun _ _=>0)
 case atStart=>exact⟨rfl,h0⟩
 case round=>
  obtain⟨rfl,hJs⟩:=hrel
  gi_wp2
  go_end0
  exact⟨⟨_,rfl⟩,hJs⟩
end
section
open Go.RowKit Go.Maps Go.Sort Go.Shelf
variable {P:Program} {ρ:Ren}
def SeqB{α:Type}(F:Fence)(n:Nat)(P:Program)(g:Nat)(lb:Array Value)(enc:α->Value)(S:List α->Prop)(N:Nat)(w:World):Prop:=
 ∀(l:Nat)(J:List α->World->Prop)(W:World),Below w.heap.size w W->AbidesFrom W.heap.size J->(∀ss W1,J ss W1->Below w.heap.size w W1) ->
  (∀pre x W1,J pre W1->pre.length<N->YieldAt F (n-1) P l #[enc x] W1 fun e W'=>e=.returned (.bool true)/\J (pre++[x]) W'/\KeepsWalks W1 W') ->
  J [] W ->
  CallsIn F n P g (#[.func (.yield l) #[] #[]]++lb) W fun e W'=>(∃v,e=.returned v)/\∃xs,S xs/\J xs W'
set_option maxHeartbeats 2000000 in
theorem appB_in (L : SlLaysZI.n11 P ρ) (F : Fence) (n : Nat) (h11 : F.fn (ρ.f 11)) (hro : F.round = none) (hn : 2 ≤ n) (g : Nat) (lb : Array Value) (hFg : F.fn g) (eg : ∀ args w, (callFunc g args).run P w = .ok (.enter g args) w)
    (S : List Int → Prop) (N : Nat) (hN : N ≤ maxLen) (hNb : N * 8 ≤ 140737488355328) (w : World) (hseq : SeqB F (n - 1) P g lb encZ S N w) :
    CallsIn F n P (ρ.f 11) #[.slice none 0 0, .func (.func g) #[] lb] w fun e w' => ∃ (v : Value) (ss : List Int), e = .returned v ∧ S ss ∧ w'.ownsRow w.heap.size (ρ.t 26) 1 v ss.length (ss.map encZ) ∧ (v = .slice none 0 0 ↔ ss = []) ∧ Below w.heap.size w w' := by
  have h1 : 1 ≤ n := by omega
  have mixed := L.mixed; have t0 := L.t0; have a0 := L.a0; have z0 := L.z0; have v0 := L.v0; have t24 := L.t24; have a24 := L.a24; have z24 := L.z24; have v24 := L.v24; have t26 := L.t26; have a26 := L.a26; have z26 := L.z26; have v26 := L.v26; have t28 := L.t28; have a28 := L.a28; have z28 := L.z28; have v28 := L.v28
  have hne : ρ.t 24 ≠ ρ.t 26 := fun e => by have h := L.t24; rw [e, L.t26] at h; cases h
  have u0 := run_underlying L.t0; have u24 := run_underlying L.t24; have u26 := run_underlying L.t26; have u28 := run_underlying L.t28
  obtain ⟨_, _, FG⟩ := L.f11
  refine callsIn_of_wp_marks FG rfl h11 ?_ hro
  simp only [SlBodyZ.n11_ntmps ρ, List.size_toArray, List.length_cons, List.length_nil, Nat.reduceAdd, Nat.reduceSub, Array.replicate_succ, Array.replicate_zero, List.push_toArray, List.append_toArray, List.nil_append, List.cons_append]
  gi_wp2
  refine wpIn_rangeFunc ?_
  intro fn hfn
  rw [hro]
  obtain ⟨W0, hW0⟩ : ∃ W0, w.alloc (.cells #[.slice none 0 0] (ρ.t 24)) = W0 := ⟨_, rfl⟩
  have hs0 : W0.heap.size = w.heap.size + 1 := by rw [← hW0]; simp
  have hv0 : W0.heap[w.heap.size]? = some (.cells #[.slice none 0 0] (ρ.t 24) (0, 0)) := by rw [← hW0]; exact World.alloc_heap_new w _
  have hb0 : Below w.heap.size w W0 := by rw [← hW0]; exact (Below.refl _ w).alloc (Nat.le_refl _) _
  rw [hW0]
  obtain ⟨W1, hW1⟩ : ∃ W1, (W0.alloc (.deferred (some []))).alloc (.loop (AnyZI.apRec ρ fn (.func (.func g) #[] lb) w.heap.size W0.heap.size .ready none)) = W1 := ⟨_, rfl⟩
  have hold : ∀ k, k < W0.heap.size → W1.heap[k]? = W0.heap[k]? := fun k hk => by
    rw [← hW1]; exact (Below.heap_alloc _ _ k (by simp; omega)).trans (Below.heap_alloc _ _ k hk)
  have hb1 : Below w.heap.size w W1 := by rw [← hW1]; exact (hb0.alloc hb0.size _).alloc (by have := hb0.size; simp; omega) _
  have hs1 : W1.heap.size = W0.heap.size + 2 := by rw [← hW1]; simp
  have hM : AnyZI.ApAt ρ w fn (.func (.func g) #[] lb) w.heap.size (W0.heap.size + 1) W0.heap.size [] W1 :=
    ⟨⟨_, (hold w.heap.size (by omega)).trans hv0, ⟨rfl, .inl ⟨rfl, rfl⟩⟩, by simp⟩,
     by rw [← hW1]; have := World.alloc_heap_new (W0.alloc (.deferred (some []))) (.loop (AnyZI.apRec ρ fn (.func (.func g) #[] lb) w.heap.size W0.heap.size .ready none)); rwa [World.size_alloc] at this,
     by rw [← hW1]; exact (Below.heap_alloc _ _ _ (by simp)).trans (World.alloc_heap_new W0 _), hb1⟩
  refine ⟨W0.heap.size + 1, [{ target := .collected W0.heap.size, args := #[] }], W1, { target := .fn (.func g) lb, args := #[.func (.yield (W0.heap.size + 1)) #[] #[]] }, W1, g,
    #[.func (.yield (W0.heap.size + 1)) #[] #[]] ++ lb, W1, ?_, ?_, ?_, ?_, fun _ => h1, ?_⟩
  · rw [← hW1]; exact run_enterLoop_outer _ _ _ _ _
  · simp [resolve, go_sem]
  · intro f' hf'; simp [Target.leads] at hf'; subst hf'; exact hFg
  · simp [invoke, go_sem, eg]
  · refine (hseq (W0.heap.size + 1) (AnyZI.ApAt ρ w fn (.func (.func g) #[] lb) w.heap.size (W0.heap.size + 1) W0.heap.size) W1 hb1 (AnyZI.ap_abides ρ _ _ _ _ _ _ _ hb1.size) (fun _ _ h => h.below)
      (fun pre x W hJ hl => AnyZI.apYield { L with } F (n - 1 - 1) w fn hfn _ w.heap.size (W0.heap.size + 1) W0.heap.size (by omega) (by omega) (by omega) (Nat.le_refl _) (by omega) N hN hNb pre x W hJ hl) hM).mono ?_
    rintro e W2 ⟨⟨v0, rfl⟩, ss, hS, h2⟩
    obtain ⟨v, hv, hrow, hnil⟩ := h2.box
    have hend := run_endLoop (P := P) h2.L (by simp [AnyZI.apRec])
    obtain ⟨W3, hW3⟩ : ∃ W3, W2.putObj (W0.heap.size + 1) (.loop { AnyZI.apRec ρ fn (.func (.func g) #[] lb) w.heap.size W0.heap.size .ready none with state := .exhausted }) = W3 := ⟨_, rfl⟩
    rw [hW3] at hend
    have hg3 : W2.grownBy W3 (some (W0.heap.size + 1)) := by rw [← hW3]; exact grownBy_putObj_a _ _ _
    have hv3 : W3.heap[w.heap.size]? = some (.cells #[v] (ρ.t 24) (0, 0)) := by rw [← hW3]; exact (World.putObj_heap_other (by omega)).trans hv
    have hK3 : W3.heap[W0.heap.size]? = some (.deferred (some [])) := by rw [← hW3]; exact (World.putObj_heap_other (by omega)).trans h2.K
    have hrow3 := hrow.kept hg3 (ownsRow_ne_a hrow h2.L (fun cur e => by first | cases e | exact hne (Obj.cells.inj e).2.1))
    have hb3 : Below w.heap.size w W3 := h2.below.grown hg3 h2.below.size (fun k e => by cases e; omega)
    obtain ⟨hc3, hf3⟩ := cell_of_box_a hv3
    clear hW3
    refine ⟨none, W3, hend, ?_⟩
    gi_wp2
    rw [← hs0]
    refine ⟨by simp, .inl ⟨_, _, rfl, run_takeDeferred hK3, ?_⟩⟩
    exact ⟨_, results_tmp rfl _ _ _, v, ss, rfl, hS, hrow3.kept (grownBy_putObj_a _ _ _) (ownsRow_ne_a hrow3 hK3 (fun cur e => by first | cases e | exact hne (Obj.cells.inj e).2.1)), hnil, hb3.grown (grownBy_putObj_a _ _ _) hb3.size (fun k e => by cases e; omega)⟩
theorem below_mid{n:Nat}{w W W':World}(a:Below n w W)(b:Below n w W')(hs:W.heap.size<=W'.heap.size):Below n W W':=
 ⟨b.os.trans a.os.symm,b.tape.trans a.tape.symm,b.output.trans a.output.symm,hs,fun k hk=>(b.block k hk).trans (a.block k hk).symm⟩
theorem Try.valuesB(n:Nat)(hn:1<=n)(w:World)(Bs:Nat)(sv:Value)(zs:List Int)(hreach:zs.length*8<=140737488351232)(hBs:Bs<w.heap.size)(hc:w.cell? ⟨Bs,0,none⟩=some sv)
  (hI:(sv=.slice none 0 0/\zs=[])\/∃b off cap,sv=.slice (some ⟨b,off,none⟩) zs.length cap/\b<w.heap.size/\∀j,j<zs.length->w.cell? ⟨b,off+j,none⟩=some (.int .i64 (zs[j]?.getD 0))) :
  SeqB Fence.wide n Try.prog 93 #[.pointer (some ⟨Bs,0,none⟩)] encZ (fun ys=>ys=zs) zs.length w:=by
 intro l J W hW _ hJb hY h0
 have hc':=(hW.cell (p:=⟨Bs,0,none⟩) hBs).trans hc
 rcases hI with⟨rfl,rfl⟩ |⟨b,off,cap,rfl,hb,hcs⟩
 ·exact(Try.values1_nil_in Fence.wide n trivial rfl l Bs J W hc' h0).mono fun e W' ⟨he,hj⟩=>⟨he,_,rfl,hj⟩
 ·refine(Try.values1_in Fence.wide n trivial rfl hn l Bs w.heap.size b off zs.length cap zs hreach hb J (fun _ _=>False) ?_ W hc' (fun j hj=>(hW.cell (p:=⟨b,off+j,none⟩) hb).trans (hcs j hj)) h0).mono ?_
  ·intro pre x W1 hJ hl
   obtain⟨fn,tmps,assign,body,hy,hR⟩:=hY pre x W1 hJ hl
   refine⟨fn,tmps,assign,body,hy,hR.mono ?_⟩
   rintro e W' ⟨he,hJ',hk⟩
   exact .inl ⟨he,hJ',below_mid (hJb _ _ hJ) (hJb _ _ hJ') hk.size⟩
  ·rintro e W' ⟨he,⟨ys,rfl,hj⟩ |⟨pre,_,hj⟩⟩
   ·exact⟨he,_,Try.upto_all zs,hj⟩
   ·exact hj.elim
end
end Go.Proofs
namespace Go.Proofs.Ytbdibjgoeeokoaa
open Go.Ab
attribute [-simp] eAlloc_d eStore_f
theorem step_row{E:Env}{h:AH}{M:Nat->Prop}{w w':World}(hr:Rel E h w)(hb:RowKit.Below w.heap.size w w'){g sz:Nat}{ty:TypeId}{arr:Array Value}{cells:List AV}(hg:w.heap.size<=g)
  (ho:w'.heap[g]?=some (.cells arr ty (0,0))) (hc:CR E cells arr):Step E h M w (E.put h.next ⟨g,arr.size,sz,0⟩) (h.alloc (mkO cells sz ty)) w':=by
 have hle:E.le (E.put h.next ⟨g,arr.size,sz,0⟩):=Env.le_put (hr.fresh _ (zU _))
 have old:∀i o' B',i≠h.next->h.obj i=some o'->(E.put h.next ⟨g,arr.size,sz,0⟩) i=some B'->E i=some B'/\B'.b<w.heap.size:=by
  intro i o' B' hne ho hB
  obtain⟨B,hB0,hO⟩:=hr.obj i o' ho
  simp only[Env.put,zW hne]at hB
  rw[hB0]at hB;cases hB
  exact⟨hB0,hO.lt⟩
 refine⟨hle,⟨?_,?_,?_⟩,by simp[AH.alloc],fun id hlt _=>?_,fun id hlt h0=>?_,hb.os,hb.tape,hb.output,hb.size,fun b hlt _=>hb.block b hlt,fun id B o1 h1 _ h2 h3=>?_,fun id o1 o2 h1 h2 h3=>?_⟩
 ·intro id o' ho'
  simp only[AH.alloc]at ho'
  by_cases e:id=h.next
  ·subst e
   simp only[zV,zQ]at ho'
   subst ho'
   exact⟨_,by simp[Env.put];rfl,OR.of_row rfl ⟨arr,(0,0),ho,fun _=>⟨rfl,rfl,rfl⟩,hc.get,rfl,CR.toB fun i c hi=>let ⟨v,a,b,d⟩:=hc i c hi;⟨v,a,b.mono hle,d⟩⟩⟩
  ·rw[zW e]at ho'
   obtain⟨B,hB,hO⟩:=hr.obj id o' ho'
   exact⟨B,hle _ _ hB,hO.mono hle (hb.block _ hO.lt)⟩
 ·intro i j oi oj Bi Bj h1 h2 h3 h4 h5
  simp only[AH.alloc]at h1 h2
  by_cases ei:i=h.next
  ·by_cases ej:j=h.next
   ·exact .inl (ei.trans ej.symm)
   ·rw[zW ej]at h2
    obtain⟨_,a2⟩:=old j oj Bj ej h2 h4
    subst ei
    simp[Env.put]at h3
    subst h3
    simp only at h5
    omega
  ·rw[zW ei]at h1
   obtain⟨a1,a2⟩:=old i oi Bi ei h1 h3
   by_cases ej:j=h.next
   ·subst ej
    simp[Env.put]at h4
    subst h4
    simp only at h5
    omega
   ·rw[zW ej]at h2
    obtain⟨b1,b2⟩:=old j oj Bj ej h2 h4
    exact hr.inj i j oi oj Bi Bj h1 h2 a1 b1 h5
 ·intro id hid
  simp only[AH.alloc]at hid
  have hne:id≠h.next:=by omega
  simp only[Env.put,zW hne]
  exact hr.fresh id (by omega)
 ·rw[AH.alloc_obj,zW (by omega)]
 ·rw[AH.alloc_obj,zW (by omega)];exact h0
 ·have:id=h.next:=by
   have:=(h.alloc (mkO cells sz ty)).lt _ _ h1
   simp only[AH.alloc]at this
   omega
  subst this
  simp[Env.put]at h2
  subst h2
  exact .inl hg
 ·rw[AH.alloc_obj,zW (by have:=h.lt _ _ h1;omega)]at h2
  rw[h1]at h2;cases h2;exact h3
theorem flat_I:∀l:List Int,l.flatMap encI=l.map I
 |[]=>rfl
 |a::l=>by rw[List.flatMap_cons,flat_I l];rfl
theorem appSeq_ok{h:AH}{M:Nat->Prop}{R:AE->AH->Prop}{x:AV}{l:List Int}{Bs:Nat}(hb:h.obj Bs=some (mkO [x] 1 42))(hx:SlR encI 1 3 h x l)(hne:l≠[])(hl:l.length<=1000)
  (hR:∀y h',Fr h h' (fun _=>False)->SlL encI 1 3 h' y l->InS (h.next<=·) y->R (.ret y) h'):ACalls Try.prog 94 [nilS,.fn (.func 93) [] [.ptr Bs 0]] h M R:=by
 intro E w cargs hr ha
 rcases hx with⟨_,rfl⟩ |⟨_,_,_,rfl⟩ |⟨id,rest,ro,ty',rfl,_,ho⟩
 ·exact absurd rfl hne
 ·exact absurd rfl hne
 obtain⟨BB,hBB,hOB⟩:=hr.obj _ _ hb
 obtain⟨arrB,fzB,hhB,hfB,_,_,hcB⟩:=hOB.row rfl
 obtain⟨rfl,_,hB0⟩:=hfB rfl
 obtain⟨v0,hv0,hVx,_⟩:=hcB 0 _ rfl
 cases hVx with
 | @sl _ _ _ o cap B hE h1 h2 h3 h4=>
 obtain⟨B',hB',hO⟩:=hr.obj _ _ ho
 rw[hE]at hB';cases hB'
 obtain⟨arr,fz,hh,_,_,_,hc⟩:=hO.row rfl
 have ho0:o=B.o:=by rcases h1 with h |h<;>omega
 subst ho0
 cases ha with |cons a1 ha=>
 cases ha with |cons a2 ha=>
 cases ha
 cases a1
 cases a2 with |fn b1 b2=>
 cases b1
 cases b2 with |cons b2 b3=>
 cases b3
 cases b2 with |ptr hE2=>
 rw[hBB]at hE2;cases hE2
 have hcell:∀j,j<l.length->w.cell? ⟨B.b,B.o+j,none⟩=some (.int .i64 (l[j]?.getD 0)):=fun j hj=>by
  have e1:(l.flatMap encI++rest)[j]?=some (I l[j]):=by
   rw[flat_I,List.getElem?_append_left (by simpa using hj)]
   simp[hj]
  obtain⟨v,hv,hV,_⟩:=hc j _ e1
  cases hV
  simp[World.cell?,hh,hv,hj]
 have hcB':w.cell? ⟨BB.b,0,none⟩=some (.slice (some ⟨B.b,B.o,none⟩) l.length cap):=by
  rw[hB0]at hv0
  simp[World.cell?,hhB,hv0]
 have hlt:=(Array.getElem?_eq_some_iff.1 hh).1
 have hltB:=(Array.getElem?_eq_some_iff.1 hhB).1
 have c:=appB_in Try.apL Fence.wide 5 trivial rfl (by omega) 93 #[.pointer (some ⟨BB.b,0,none⟩)] trivial (enters_of Try.func93 (by kernel_rfl) rfl) (fun ys=>ys=l) l.length (by unfold maxLen;omega) (by omega) w
  (Try.valuesB 4 (by omega) w BB.b _ l (by omega) hltB hcB' (.inr ⟨_,_,_,rfl,hlt,hcell⟩))
 rw[hB0]
 refine(callsIn_wide.1 c).mono ?_
 rintro e w' ⟨v,ss,rfl,hS,hrow,hnil,hbel⟩
 obtain rfl:l=ss:=hS.symm
 rcases hrow.2 with⟨rfl,hz⟩ |⟨gb,cap',cur,rfl,hbase,hgb,r1,r2,r3,r4⟩
 ·exact absurd (hnil.1 rfl) hne
 ·have hcr:CR E (l.flatMap encI) cur:=fun i c hi=>by
   rw[flat_I,List.getElem?_map]at hi
   cases hj:l[i]? with
   |none=>rw[hj]at hi;cases hi
   |some z=>
    rw[hj]at hi
    cases hi
    have h6:i<l.length:=(zM.1 hj).1
    have h5:(cur.toList.take (l.length*1))[i]?=some (encZ z):=by rw[r4,List.getElem?_map,hj];rfl
    rw[List.getElem?_take,zX (by omega),Array.getElem?_toList]at h5
    exact⟨_,h5,.sc _,rfl⟩
  have hs:=step_row (M:=M) (sz:=1) hr hbel hbase hgb hcr
  refine⟨_,_,.ret (.sl h.next 0 l.length),hs,?_,hR _ _ (Fr.refl.alloc _) (.inr ⟨_,rfl,AH.alloc_new h _⟩) (fun id' off n e=>by cases e;exact zU _)⟩
  refine .sl (B:=⟨gb,cur.size,1,0⟩) (o:=0) (by simp[Env.put]) (.inl rfl) ?_ r1 r2
  simp only[r3];omega
end Go.Proofs.Ytbdibjgoeeokoaa
namespace Go.Proofs
open Go.Shelf
def Try.lays5_ren:Go.Shelf.Ren:={ f:=fun x=>match x with |5=>92 |8=>96 |7=>95 |19=>106 |20=>107 |10=>97 |11=>98 |12=>99 |13=>100 |14=>101 |15=>102 |16=>103 |17=>104 |18=>105 |30=>108 |31=>109 |32=>110 |33=>111 |34=>112 |35=>113 |40=>114 |n=>n,t:=fun x=>match x with |23=>42 |25=>3 |3=>3 |32=>112 |22=>42 |0=>0 |44=>135 |46=>43 |4=>4 |36=>127 |35=>126 |41=>132 |5=>5 |9=>9 |53=>137 |57=>141 |63=>143 |64=>46 |n=>n,g:=fun n=>n }
theorem Try.lays5:SlLaysM.n5 Try.prog Try.lays5_ren where
 mixed:=by kernel_rfl
 f5 := ⟨"slices.Sort[[]int,int]", by decide, Try.func92.trans (congrArg some (by kernel_rfl))⟩
 f7 := ⟨"slices.pdqsortOrdered[int]", by decide, Try.func95.trans (congrArg some (by kernel_rfl))⟩
 f8:=Try.func96.trans (congrArg some (by kernel_rfl))
 f10 := ⟨"slices.insertionSortOrdered[int]", by decide, Try.func97.trans (congrArg some (by kernel_rfl))⟩
 f11 := ⟨"slices.heapSortOrdered[int]", by decide, Try.func98.trans (congrArg some (by kernel_rfl))⟩
 f12 := ⟨"slices.breakPatternsOrdered[int]", by decide, Try.func99.trans (congrArg some (by kernel_rfl))⟩
 f13 := ⟨"slices.choosePivotOrdered[int]", by decide, Try.func100.trans (congrArg some (by kernel_rfl))⟩
 f14 := ⟨"slices.reverseRangeOrdered[int]", by decide, Try.func101.trans (congrArg some (by kernel_rfl))⟩
 f15 := ⟨"slices.partialInsertionSortOrdered[int]", by decide, Try.func102.trans (congrArg some (by kernel_rfl))⟩
 f16 := ⟨"cmp.Less[int]", by decide, Try.func103.trans (congrArg some (by kernel_rfl))⟩
 f17 := ⟨"slices.partitionEqualOrdered[int]", by decide, Try.func104.trans (congrArg some (by kernel_rfl))⟩
 f18 := ⟨"slices.partitionOrdered[int]", by decide, Try.func105.trans (congrArg some (by kernel_rfl))⟩
 f19:=Try.func106.trans (congrArg some (by kernel_rfl))
 f20:=Try.func107.trans (congrArg some (by kernel_rfl))
 f30 := ⟨"slices.siftDownOrdered[int]", by decide, Try.func108.trans (congrArg some (by kernel_rfl))⟩
 f31:=Try.func109.trans (congrArg some (by kernel_rfl))
 f32:=Try.func110.trans (congrArg some (by kernel_rfl))
 f33 := ⟨"slices.medianAdjacentOrdered[int]", by decide, Try.func111.trans (congrArg some (by kernel_rfl))⟩
 f34 := ⟨"slices.medianOrdered[int]", by decide, Try.func112.trans (congrArg some (by kernel_rfl))⟩
 f35 := ⟨"cmp.isNaN[int]", by decide, Try.func113.trans (congrArg some (by kernel_rfl))⟩
 f40 := ⟨"slices.order2Ordered[int]", by decide, Try.func114.trans (congrArg some (by kernel_rfl))⟩
 t0:=Try.underlying0
 a0:=Try.isAgg0
 z0:=Try.sizeOf0
 v0:=Try.zeroValue0
 t3:=Try.underlying3
 a3:=Try.isAgg3
 z3:=Try.sizeOf3
 v3:=Try.zeroValue3
 t4:=Try.underlying4
 a4:=Try.isAgg4
 z4:=Try.sizeOf4
 v4:=Try.zeroValue4
 t5:=Try.underlying5
 a5:=Try.isAgg5
 z5:=Try.sizeOf5
 v5:=Try.zeroValue5
 t9:=Try.underlying9
 a9:=Try.isAgg9
 z9:=Try.sizeOf9
 v9:=Try.zeroValue9
 t22:=Try.underlying42
 a22:=Try.isAgg42
 z22:=Try.sizeOf42
 v22:=Try.zeroValue42
 t23:=Try.underlying42
 a23:=Try.isAgg42
 z23:=Try.sizeOf42
 v23:=Try.zeroValue42
 t25:=Try.underlying3
 a25:=Try.isAgg3
 z25:=Try.sizeOf3
 v25:=Try.zeroValue3
 t32:=Try.underlying112
 a32:=Try.isAgg112
 z32:=Try.sizeOf112
 v32:=Try.zeroValue112
 t35:=Try.underlying126
 a35:=Try.isAgg126
 z35:=Try.sizeOf126
 v35:=Try.zeroValue126
 t36:=Try.underlying127
 a36:=Try.isAgg127
 z36:=Try.sizeOf127
 v36:=Try.zeroValue127
 t41:=Try.underlying132
 a41:=Try.isAgg132
 z41:=Try.sizeOf132
 v41:=Try.zeroValue132
 t44:=Try.underlying135
 a44:=Try.isAgg135
 z44:=Try.sizeOf135
 v44:=Try.zeroValue135
 t46:=Try.underlying43
 a46:=Try.isAgg43
 z46:=Try.sizeOf43
 v46:=Try.zeroValue43
 t53:=Try.underlying137
 a53:=Try.isAgg137
 z53:=Try.sizeOf137
 v53:=Try.zeroValue137
 t57:=Try.underlying141
 a57:=Try.isAgg141
 z57:=Try.sizeOf141
 v57:=Try.zeroValue141
 t63:=Try.underlying143
 a63:=Try.isAgg143
 z63:=Try.sizeOf143
 v63:=Try.zeroValue143
 t64:=Try.underlying46
 a64:=Try.isAgg46
 z64:=Try.sizeOf46
 v64:=Try.zeroValue46
theorem Try.x5:(Try.lays5_ren).f 5=92:=rfl
end Go.Proofs
namespace Go.Proofs.Ytbdibjgoeeokoaa
section
open Go.Ab
attribute [-simp] eAlloc_d eStore_f
theorem step_wr{E:Env}{h:AH}{M:Nat->Prop}{w w':World}(hr:Rel E h w){id:Nat}{o o':AO}{B:Blk}(hE:E id=some B)(ho:h.obj id=some o)(hro:o.ro=false)(hro':o'.ro=false)(hM:M id)
  (hg:w.grownBy w' (some B.b)) (hB:OR E o' B w'):Step E h M w E (h.upd id fun _=>o') w':=by
 have hu:∀i,(h.upd id fun _=>o').obj i=if i=id then some o' else h.obj i:=fun i=>by
  simp only[AH.upd]
  by_cases e:i=id
  ·rw[zX e,zX e,e,ho];rfl
  ·rw[zW e,zW e]
 have back:∀i oi,(h.upd id fun _=>o').obj i=some oi->∃oj,h.obj i=some oj/\oj.ro=oi.ro:=fun i oi hi=>by
  rw[hu]at hi
  by_cases e:i=id
  ·rw[zX e]at hi;cases hi;subst e;exact⟨o,ho,hro.trans hro'.symm⟩
  ·rw[zW e]at hi;exact⟨oi,hi,rfl⟩
 refine⟨fun _ _ h=>h,⟨?_,?_,hr.fresh⟩,zU _,fun i hi hm=>?_,fun i hi h0=>?_,hg.os,hg.tape,hg.output,hg.size,fun b hb hno=>?_,fun i Bi oi h1 _ _ h3=>?_,fun i o1 o2 h1 h2 h3=>?_⟩
 ·intro i oi hi
  rw[hu]at hi
  by_cases e:i=id
  ·rw[zX e]at hi;cases hi;subst e;exact⟨B,hE,hB⟩
  ·rw[zW e]at hi
   obtain⟨Bi,hEi,hOi⟩:=hr.obj i oi hi
   refine⟨Bi,hEi,hOi.mono (fun _ _ h=>h) (hg.block _ hOi.lt fun e2=>?_)⟩
   rcases hr.inj i id oi o Bi B hi ho hEi hE (Option.some.inj e2) with h1 |⟨_,h1⟩
   ·exact e h1
   ·rw[hro]at h1;cases h1
 ·intro i j oi oj Bi Bj h1 h2 h3 h4 h5
  obtain⟨oi',a1,a2⟩:=back _ _ h1
  obtain⟨oj',b1,b2⟩:=back _ _ h2
  rw[<-a2,<-b2]
  exact hr.inj i j oi' oj' Bi Bj a1 b1 h3 h4 h5
 ·rw[hu,zW (fun e:i=id=>hm (by rw[e];exact hM))]
 ·rw[hu]
  by_cases e:i=id
  ·subst e;rw[ho]at h0;cases h0
  ·rw[zW e];exact h0
 ·exact hg.block b hb fun e=>hno id B o hM ho hro hE (Option.some.inj e).symm
 ·have:=(h.upd id fun _=>o').lt _ _ h1
  simp only[AH.upd]at this
  omega
 ·obtain⟨oj,b1,b2⟩:=back _ _ h2
  rw[h1]at b1;cases b1
  rw[<-b2];exact h3
def sortI(l:List Int):List Int:=l.mergeSort fun x y=>decide (x<=y)
theorem sortI_len(l:List Int):(sortI l).length=l.length:=List.length_mergeSort l
theorem sort_ok{h:AH}{M:Nat->Prop}{R:AE->AH->Prop}{l:List Int}{id:Nat}(ho:h.obj id=some (mkO (l.flatMap encI) 1 3))(hM:M id)(hl:l.length<=1000)
  (hR:∀h',h'.obj id=some (mkO ((sortI l).flatMap encI) 1 3)->Fr h h' (·=id)->R (.ret (.tup [])) h'):ACalls Try.prog 92 [.sl id 0 l.length] h M R:=by
 intro E w cargs hr ha
 obtain⟨B,hE,hO⟩:=hr.obj _ _ ho
 obtain⟨arr,fz,hh,hf,h5,h6,hc⟩:=hO.row rfl
 obtain⟨rfl,h7,h8⟩:=hf rfl
 cases ha with |cons a1 ha=>
 cases ha
 cases a1 with
 | @sl _ _ _ o cap B2 hE2 h1 h2 h3 h4=>
 rw[hE]at hE2;cases hE2
 have ho0:o=B.o:=by rcases h1 with h |h<;>omega
 subst ho0
 have hlt:=(Array.getElem?_eq_some_iff.1 hh).1
 have h10:∀j (hj:j<l.length),arr[j]?=some (encZ l[j]):=fun j hj=>by
  have e1:(l.flatMap encI)[j]?=some (I l[j]):=by rw[flat_I];simp[hj]
  obtain⟨v,hv,hV,_⟩:=hc j _ e1
  cases hV
  rw[h8,zG]at hv
  exact hv
 have h5':l.length<=arr.size:=by
  have:(mkO (l.flatMap encI) 1 3).cells.length=l.length:=by rw[show(mkO (l.flatMap encI) 1 3).cells=l.flatMap encI from rfl,flat_I,zZ]
  omega
 have ht:arr.toList.take l.length=l.map encZ:=by
  apply List.ext_getElem?
  intro j
  by_cases hj:j<l.length
  ·rw[List.getElem?_take_of_lt hj,Array.getElem?_toList,h10 j hj];simp[hj]
  ·rw[List.getElem?_take_eq_none (by omega),List.getElem?_eq_none (by simp;omega)]
 have c:=AnyM.slices_Sort_int Try.lays5 B.b 0 cap l w (holds_of_block_i hh ht) hlt (by omega)
 rw[h8]
 refine c.mono ?_
 rintro e w' ⟨rfl,n,os,rfl⟩
 have hg:=grownBy_sorted_i (w:=w) (g:=B.b) (n:=n) (os:=os) (sortI l).toArray
 have hw:=heap_sorted_i (w:=w) (g:=B.b) (n:=n) (os:=os) (sortI l).toArray hh
 have ht2:=take_putCells_i arr (sortI l) (by rw[sortI_len];exact h5')
 refine⟨E,h.upd id fun _=>mkO ((sortI l).flatMap encI) 1 3,.ret (.tup []),step_wr hr hE ho rfl rfl hM hg (OR.of_row rfl ⟨_,(0,0),hw,fun _=>⟨rfl,?_,h8⟩,?_,h6,?_⟩),.tup .nil,hR _ ?_ ?_⟩
 ·rw[<-h7];simp[Go.Sort.putCells]
 ·rw[show(mkO ((sortI l).flatMap encI) 1 3).cells=(sortI l).flatMap encI from rfl,flat_I,zZ,sortI_len];omega
 ·rw[h8]
  refine CR.toB fun i c hi=>?_
  rw[show(mkO ((sortI l).flatMap encI) 1 3).cells=(sortI l).flatMap encI from rfl,flat_I,List.getElem?_map]at hi
  cases hj:(sortI l)[i]? with
  |none=>rw[hj]at hi;cases hi
  |some z=>
   rw[hj]at hi
   cases hi
   have hlt:=(zM.1 hj).1
   have h12:((Go.Sort.putCells encZ 0 (sortI l).toArray arr).toList.take (sortI l).length)[i]?=some (encZ z):=by rw[ht2,List.getElem?_map,hj];rfl
   rw[List.getElem?_take_of_lt hlt,Array.getElem?_toList]at h12
   exact⟨_,h12,.sc _,rfl⟩
 ·simp only[AH.upd,zV,ho,yB]
 ·refine⟨zU _,fun i hi hne=>?_⟩
  simp only[AH.upd,zW hne]
end
section
open Go.Ab
attribute [-simp] eAlloc_d eStore_f
section
variable {h:AH} {M:Nat->Prop} {R:AE->AH->Prop} {x:AV} {l:List Int}
theorem collect_ok{Bs:Nat}(hb:h.obj Bs=some (mkO [x] 1 42))(hx:SlR encI 1 3 h x l)(hne:l≠[])(hl:l.length<=1000)
  (hR:∀y h',Fr h h' (fun _=>False)->SlL encI 1 3 h' y l->InS (h.next<=·) y->R (.ret y) h'):ACalls Try.prog 91 [.fn (.func 93) [] [.ptr Bs 0]] h M R:=by
 apply F91.callsN
 unfold F91.n2 F91.n1
 refine⟨fun _=>False,fun _ h=>h.elim,appSeq_ok hb hx hne hl fun y h1 f1 hy hi=>?_⟩
 exact hR y h1 f1 hy hi
theorem sorted_ok{Bs:Nat}(hb:h.obj Bs=some (mkO [x] 1 42))(hx:SlR encI 1 3 h x l)(hne:l≠[])(hl:l.length<=1000)
  (hR:∀y h',Fr h h' (fun _=>False)->SlL encI 1 3 h' y (sortI l)->R (.ret y) h'):ACalls Try.prog 89 [.fn (.func 93) [] [.ptr Bs 0]] h M R:=by
 apply F89.callsN
 unfold F89.n4 F89.n3
 refine⟨fun _=>False,fun _ h=>h.elim,collect_ok hb hx hne hl fun y h1 f1 hy hi=>?_⟩
 unfold F89.n2 F89.n1
 obtain⟨id,rfl⟩:=hy.sl hne
 have hn:=hi _ _ _ rfl
 rcases hy with⟨h2,_⟩ |⟨id',h2,ho⟩
 ·cases h2
 cases h2
 refine⟨(·=id),fun i e _=>.inr (by rw[e];exact hn),sort_ok ho rfl hl fun h2 ho2 f2=>?_⟩
 exact hR _ h2 (fr_set f1 hn f2) (.inr ⟨id,by rw[sortI_len];rfl,ho2⟩)
theorem set_ok(hx:SlR encI 1 3 h x l)(hne:l≠[])(hl:l.length<=1000)(hR:∀y h',Fr h h' (fun _=>False)->SlR encI 1 3 h' y (sortI l)->R (.ret y) h'):ACalls Try.prog 87 [x] h M R:=by
 apply F87.callsN
 unfold F87.n2 F87.n1
 refine⟨fun _=>False,fun _ h=>h.elim,?_⟩
 apply F90.callsN
 unfold F90.n2 F90.n1
 refine⟨_,hx.one.2,by rw[List.all_cons,hx.one.1];rfl,?_⟩
 have f1:Fr h (h.alloc (mkO [x] 1 42)) (fun _=>False):=Fr.refl.alloc _
 have ho:=AH.alloc_new h (mkO [x] 1 42)
 refine⟨fun _=>False,fun _ h=>h.elim,sorted_ok ho (hx.fr0 f1) hne hl fun y h2 f2 hy=>?_⟩
 exact hR y h2 (f1.tr0 f2) hy.toR
theorem equalI_ok{y:AV}{m:List Int}(hx:SlR encI 1 3 h x l)(hy:SlR encI 1 3 h y m)(hl:l.length<=9223372036854775807)(hR:R (.ret (B (decide (l=m)))) h):ACalls Try.prog 86 [x,y] h M R:=by
 apply F86.callsN
 unfold F86.n14 F86.n13
 simp only[hx.len.1,hx.len.2,hy.len.1,hy.len.2,zH,pBin_neq,nat_bne]
 by_cases e:l.length=m.length
 ·rw[zL e]
  simp only[F86.n12,aIf_b,zS,zE,zC,zD,zH,F86.n10,hx.len.1,hx.len.2]
  unfold F86.n9
  refine vLoop_of (ι:=Nat) (fun i v h'=>v=[x,y,I l.length,I i]/\i<=l.length/\h'=h/\l.take i=m.take i) (fun i=>l.length-i) 0 ⟨rfl,by omega,rfl,rfl⟩ ?_
  rintro K i v h' ⟨rfl,hi,rfl,he⟩ hK
  simp only[F86.g1_,zN,zO]
  by_cases hlt:i<l.length
  ·have hli:(i:Int)<l.length:=by omega
   have g1:l[i]?=some l[i]:=zJ hlt
   have g2:m[i]?=some (m[i]'(by omega)):=zJ (by omega)
   have w1:IntKind.i64.wrap ((i:Int)+1)=((i+1:Nat):Int):=by rw[wrap_in (by omega) (by omega)];simp
   simp only[F86.n8,pBin_lss,zL hli,F86.n7,aIf_b,zD,zF,zC,zI,F86.n6,F86.n5]
   refine rng_one hx encI_len g1 rfl fun _=>?_
   refine rng_one hy encI_len g2 rfl fun _=>?_
   rw[pBin_neq,int_bne]
   by_cases e2:l[i]=m[i]'(by omega)
   ·simp only[zL e2,zS,F86.n4,aIf_b,zD,zE,zC,zH,F86.n2,pBin_add,w1]
    refine hK (i+1) _ _ (by omega) ⟨rfl,by omega,rfl,?_⟩
    rw[List.take_add_one,List.take_add_one,he,g1,g2,e2]
   ·have hne:l≠m:=fun h=>e2 (by subst h;rfl)
    rw[zK hne]at hR
    simp only[zK e2,zT,F86.n4,aIf_b,zD,zF,zC,zI,F86.n3]
    simpa using hR
  ·have hnl:¬(i:Int)<l.length:=by omega
   have:l=m:=by
    rw[List.take_of_length_le (by omega),List.take_of_length_le (by omega)]at he
    exact he
   rw[zL this]at hR
   simp only[F86.n8,pBin_lss,zK hnl,F86.n7,aIf_b,zD,zE,zC,zH,zV,F86.n1]
   simpa using hR
 ·have hne:l≠m:=fun h=>e (by rw[h])
  rw[zK hne]at hR
  rw[zK e]
  simp only[F86.n12,aIf_b,zT,zF,zD,zC,zI,F86.n11]
  simpa using hR
end
end
end Go.Proofs.Ytbdibjgoeeokoaa
