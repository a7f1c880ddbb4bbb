/- Contracts and lemmas, joined out of smaller texts by a program; no conditions. -/
import Derived.Sort.Row
import Derived.Sort.Grow
import Derived.Test.YthlhlnbcjlpigaaGreatDoorKB15
set_option linter.unusedVariables false
set_option linter.unusedSimpArgs false
set_option maxHeartbeats 1000000
set_option maxRecDepth 100000
namespace Go.aU
open Go.Sort
theorem grown_of{w w':World}(h1:w'.os=w.os)(h2:w'.tape=w.tape)(h3:w'.output=w.output)(hs:w.heap.size<=w'.heap.size)(hb: ∀k,k<w.heap.size->w'.heap[k]? =w.heap[k]?)(hd:w.drawn<=w'.drawn): ∃q os,w'=grow (w.drewN q) os:=by
 refine⟨w'.drawn-w.drawn,w'.heap.extract w.heap.size w'.heap.size,?_⟩;have eh:w'.heap=w.heap++w'.heap.extract w.heap.size w'.heap.size:=by
  apply Array.ext_getElem?;intro k;by_cases hk:k<w.heap.size
  ·rw[Array.getElem?_append_left hk];exact hb k hk
  ·rw[Array.getElem?_append_right (by omega),Array.getElem?_extract];by_cases hk2:k<w'.heap.size
   ·rw[if_pos (by omega)];congr 1;omega
   ·rw[if_neg (by omega),Array.getElem?_eq_none (by omega)]
 have ed:w'.drawn=w.drawn+(w'.drawn-w.drawn):=by omega
 obtain⟨heap',tape',drawn',os',output'⟩:=w';simp only at h1 h2 h3 eh ed;subst h1 h2 h3;unfold grow World.drewN;simp only;congr 1
theorem ay.grows{P:Program}{f:FuncId}{args:List AV}{σ:List aC}{x:Value}{vs:Array Value}{j:Js}{w:World}(h:ay P f args σ (.d (.v x)))(hj: ∀b:Nat,some b∉j)(hS:aS w j σ)(hr:Rs w j args vs):
  Calls P f vs w fun e w'=>e= .returned x/\∃q os,w'=grow (w.drewN q) os:=by
 have h1:Calls P f vs w fun e w'=>e= .returned x/\∃j',Ev j w j' w':=(h.2 j w vs hS hr).mono fun e w' ⟨v,r,σ',j',X,he,g1,g2,g3,g4,g5,g6⟩=>by
  obtain⟨rfl,_⟩:=g6;exact⟨by rw[he,kD g2],j',g3⟩
 refine(Y5 h1).mono ?_;rintro e w' ⟨rfl,⟨j',hE⟩,hd⟩;exact⟨rfl,grown_of hE.os hE.tape hE.output hE.size (fun k hk=>hE.keep k hk (hj k)) hd⟩
section
variable {α : Type} [Inhabited α] {enc : α -> Value}
theorem heap_sort1{w:World}{cb:Nat}{C:Array Value}{e:TypeId}{f:Nat×Nat}(hC:w.heap[cb]? =some (.cells C e f))(m:Nat)(d:Array α)(os:Array Obj){c:Nat}(hc:c<w.heap.size):
  (grow (putRow enc (Go.Sort.ahead w m) cb 0 d) os).heap[c]? =if c=cb then some (.cells (putCells enc 0 d C) e f) else w.heap[c]? :=by
 unfold grow putRow mapBlock;simp only;rw[Array.getElem?_append_left (by simpa[Go.Sort.ahead] using hc),Array.getElem?_modify];have e0:(Go.Sort.ahead w m).heap=w.heap:=rfl;rw[e0];by_cases hb:c=cb
 ·subst hb;simp[hC,onCells]
 ·simp[hb,Ne.symm hb]
theorem Ib{w:World}{j:Js}{σ:List aC}(hS:aS w j σ){b cb n:Nat}{row:Nat->List D}(hj:j[b]? =some (some cb))(hb:σ[b]? =some (.arr 1 n row))(d:Array α)(hk:d.size<=n)(m:Nat)(os:Array Obj)(row':Nat->List D)(hrow: ∀i,i<n->row' i=if i<d.size then[.v (enc d[i]!)] else row i):
  aS (grow (putRow enc (Go.Sort.ahead w m) cb 0 d) os) j (σ.set b (.arr 1 n row'))/\Ev j w j (grow (putRow enc (Go.Sort.ahead w m) cb 0 d) os):=by
 obtain⟨o,ho,hB⟩:=hS.blk b _ hb;rw[hj] at ho;cases ho;obtain⟨C,e,⟨f,hC,vI⟩,hcs,hrel⟩:=hB;have hfz:=Or.imp_left And.left vI;have hcb:cb<w.heap.size:=hS.lt b cb hj;have hheap:=fun c hc=>heap_sort1 (enc:=enc) hC m d os (c:=c) hc;have hsz:(putCells enc 0 d C).size=C.size:=by simp[putCells]
 have hsize:w.heap.size<=(grow (putRow enc (Go.Sort.ahead w m) cb 0 d) os).heap.size:=by
  unfold grow putRow mapBlock Go.Sort.ahead;simp
 have he:Ev j w j (grow (putRow enc (Go.Sort.ahead w m) cb 0 d) os):=by
  refine⟨hsize,fun c hc hn=> ?_,fun _ _ h=>h,fun c hc=> ?_,fun a ha=> ?_,rfl,rfl,rfl,fun c r hr=> ?_⟩
  ·rw[hheap c hc,if_neg (fun h:c=cb=>hn (by rw[h];exact List.mem_of_getElem? hj))]
  ·unfold World.shape?;rw[hheap c hc];by_cases h:c=cb
   ·subst h;simp[hC,hsz]
   ·simp[h]
  ·unfold World.frozen?;rw[hheap a.block ha];by_cases h:a.block=cb
   ·simp[h,hC]
   ·simp[h]
  ·have hc:c<w.heap.size:=(Array.getElem?_eq_some_iff.1 hr).1;refine⟨r,?_⟩;rw[hheap c hc,if_neg (fun h:c=cb=>by subst h;rw[hC] at hr;cases hr)];exact hr
 refine⟨⟨by simp[hS.len],fun c q hc=>Nat.lt_of_lt_of_le (hS.lt c q hc) hsize,hS.inj,fun c y hy=> ?_⟩,he⟩;rw[List.getElem?_set] at hy;split at hy
 ·rename_i hbc;subst hbc;split at hy
  ·simp only[Option.some.injEq] at hy;subst hy;refine⟨some cb,hj,putCells enc 0 d C,e,⟨f,by rw[hheap cb hcb];simp,by rw[hsz];exact vI⟩,by rw[hsz];exact hcs,fun i hi=> ?_⟩;have hlt:i<C.size:=by omega
   rw[hrow i hi];by_cases hid:i<d.size
   ·simp only[hid,if_true];refine⟨rfl,fun q hq=> ?_⟩;obtain rfl:q=0:=by omega
    have e3:(putCells enc 0 d C).getD (i*1+0) Go.undef=enc d[i]! :=by
     simp[putCells,Array.getD_eq_getD_getElem?,hlt,hid]
    rw[e3];exact .v _
   ·simp only[hid,if_false];refine⟨(hrel i hi).1,fun q hq=> ?_⟩;obtain rfl:q=0:=by omega
    have e3:(putCells enc 0 d C).getD (i*1+0) Go.undef=C.getD (i*1+0) Go.undef:=by
     simp[putCells,Array.getD_eq_getD_getElem?,hlt,hid]
    rw[e3];exact((hrel i hi).2 0 (by omega)).mono he
  ·simp at hy
 ·rename_i hbc;obtain⟨o,ho,hB⟩:=hS.blk c y hy;refine⟨o,ho,hB.mono he hS.lt (.refl _ _) fun cb' hcb'=> ?_⟩;subst hcb';have hne:cb'≠cb:=fun h=>hbc (hS.inj _ _ _ hj (h▸ho));rw[hheap cb' (hS.lt c cb' ho),if_neg hne]
theorem SB{w:World}{j:Js}{σ:List aC}(hS:aS w j σ){b cb n:Nat}{row:Nat->List D}(hj:j[b]? =some (some cb))(hb:σ[b]? =some (.arr 1 n row))(d:Array α)(hk:d.size<=n)(hr: ∀i,i<d.size->row i=[.v (enc d[i]!)]):Holds enc w cb 0 d:=by
 obtain⟨o,ho,hB⟩:=hS.blk b _ hb;rw[hj] at ho;cases ho;obtain⟨C,e,⟨f,hC,vI⟩,hcs,hrel⟩:=hB;have hfz:=Or.imp_left And.left vI;intro t ht;have hlt:t<C.size:=by omega
 have h0:=(hrel t (by omega)).2 0 (by omega);rw[hr t ht] at h0;simp only[List.getD_cons_zero,Nat.mul_one,Nat.add_zero] at h0;have hv:C.getD t Go.undef=enc d[t]! :=by
  generalize C.getD t Go.undef=u at h0
  cases h0;rfl
 refine⟨?_,?_⟩
 ·rw[cell_of hC,Nat.zero_add,←hv];simp[Array.getD_eq_getD_getElem?,hlt]
 ·obtain⟨lo,hi'⟩:=f;simp only[World.frozen?,hC,Bool.and_eq_false_iff,decide_eq_false_iff_not];rcases hfz with hf|hf
  ·left;simp only at hf;omega
  ·simp only[Prod.mk.injEq] at hf;right;omega
end
end Go.aU
namespace Go.Proofs.YthlhlnbcjlpigaaGreatDoor
open Go.aU Go.bY Go.Proofs.Tryz
theorem vg(σ:List aC)(c:Option Nat)(n:Nat)(g:Nat->Row)(p:qw)(r u d:Int)(hn:n<1000000000)(hp:jJ p)(hσ:σ[1]? =some (.loc 1)):ay prog 336 [.d (SL c 3 Row.enc n g),.agg (p.enc.map .d),.d (I r),.d (I u),.d (I d)] σ (.eX [.agg ((qC n g p r u d).1.enc.map .d),.d (I (qC n g p r u d).2)]):=by
 refine ay.bs true func336 fun hwf=> ?_;refine aW.mk (KE _ c n g p r u d hn hp (aO hσ)) (sm ?_);refine aH [0,2,3,4,6,10,12] ?_ ?_<;>intro c0 d0
 ·have hz:qC n g p r u d=(Acc.zero,Dp n g p r u d):=by unfold qC;rw[if_pos d0]
  simp[go_sem];refine aj ?_;rw[hz];simp[go_sem,Acc.zero]
 ·have hz:qC n g p r u d=(decW n g p r u d,0):=by unfold qC;rw[if_neg (by simp[d0])]
  simp[go_sem];refine aW.mk (Iw _ c n g p r u d hp (ask_zero d0).1 (aO hσ)) (sm ?_);rw[hz];exact aj sc
end Go.Proofs.YthlhlnbcjlpigaaGreatDoor
