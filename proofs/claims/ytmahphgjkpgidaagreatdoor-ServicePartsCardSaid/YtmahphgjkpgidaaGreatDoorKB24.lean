/- Contracts and lemmas, joined out of smaller texts by a program; no conditions. -/
import Derived.Test.YtmahphgjkpgidaaGreatDoorKB2
set_option linter.unusedVariables false
set_option linter.unusedSimpArgs false
namespace Go.aU
def dH(k:IntKind)(n:Nat)(f:Nat->Int):List AV:=(List.range n).map fun i=> .d (.v (.int k (f i)))
def upd(f:Nat->Int)(i:Nat)(z:Int):Nat->Int:=fun q=>if q=i then z else f q
variable {k : IntKind} {n : Nat} {f : Nat -> Int}
theorem gq:(dH k n f).length=n:=by simp[dH]
theorem DJ{i:Nat}(h:i<n):(dH k n f)[i]? =some (.d (.v (.int k (f i)))):=by simp[dH,h]
theorem arrV_at{i:Nat}(h:i<n):List.take 1 (List.drop i (dH k n f))=[.d (.v (.int k (f i)))]:=by
 have h1:i<(dH k n f).length:=by rw[gq];exact h
 rw[List.drop_eq_getElem_cons h1];simp[dH]
theorem arrV_set{i:Nat}{z:Int}(h:i<n):List.take i (dH k n f)++AV.d (.v (.int k z))::List.drop (i+1) (dH k n f)=dH k n (upd f i z):=by
 apply List.ext_getElem?;intro q;rw[List.getElem?_append];simp only[List.length_take,gq,List.getElem?_take];have e:min i n=i:=by omega
 rw[e];by_cases h1:q<i
 ·rw[if_pos h1,if_pos h1,DJ (by omega),DJ (by omega)];simp[upd,show ¬q=i by omega]
 ·rw[if_neg h1];rcases Nat.eq_or_lt_of_le (Nat.le_of_not_lt h1) with h2|h2
  ·subst h2;rw[Nat.sub_self,DJ h];simp[upd]
  ·have e1:q-i=(q-i-1)+1:=by omega
   rw[e1,List.getElem?_cons_succ,List.getElem?_drop];have e2:i+1+(q-i-1)=q:=by omega
   rw[e2];by_cases h3:q<n
   ·rw[DJ h3,DJ h3];simp[upd,show ¬q=i by omega]
   ·rw[List.getElem?_eq_none (by rw[gq];omega),List.getElem?_eq_none (by rw[gq];omega)]
theorem arrV_at0(h:0<n):List.take 1 (dH k n f)=[.d (.v (.int k (f 0)))]:=arrV_at (i:=0) h
theorem arrV_set0{z:Int}(h:0<n):AV.d (.v (.int k z))::(dH k n f).tail=dH k n (upd f 0 z):=by
 have:=arrV_set (k:=k) (f:=f) (z:=z) h;simpa using this
theorem VL:List.take n (dH k n f)=dH k n f:=List.take_of_length_le (by rw[gq];exact Nat.le_refl _)
theorem arrV_takeA{l:List AV} :List.take n (dH k n f++l)=dH k n f:=by
 rw[List.take_append_of_le_length (by rw[gq];exact Nat.le_refl _),VL]
theorem arrV_takeB{l:List AV}{i:Nat}(h:n<=i):List.take i (dH k n f++l)=dH k n f++List.take (i-n) l:=by
 rw[List.take_append,gq,List.take_of_length_le (by rw[gq];exact h)]
theorem arrV_dropA{l:List AV}{i:Nat}(h:n<=i):List.drop i (dH k n f++l)=List.drop (i-n) l:=by
 rw[List.drop_append,List.drop_eq_nil_of_le (by rw[gq];exact h),gq,List.nil_append]
theorem arrV_allOne:jU (dH k n f)=true:=by
 unfold dH;have: ∀l:List Nat,jU (l.map fun i=>AV.d (.v (.int k (f i))))=true:=by
  intro l;induction l with
  |nil=>rfl
  |cons x l ih=>simp[jU,MF,Value.oneCell'] at ih⊢;first|exact ih|simp_all
 exact this _
theorem NJ{m:Nat}{α:Type}(g:α->D): ∀l:List α,iG m (l.map fun i=>AV.d (g i))
 |[]=>trivial
 |x::l=>⟨trivial,NJ g l⟩
theorem Jr{X:List Nat}{α:Type}(g:α->D): ∀l:List α,dQ X (l.map fun i=>AV.d (g i))=true
 |[]=>rfl
 |x::l=>by simp only[List.map_cons,dQ,AV.avoids,Bool.true_and];exact Jr g l
theorem Tn{m:Nat} :iG m (dH k n f):=NJ _ _
theorem arrV_avoids{X:List Nat} :dQ X (dH k n f)=true:=Jr _ _
theorem arrV_scrub{X:List Nat} :(dH k n f).map (fun c=>if c.avoids X then c else .undef)=dH k n f:=by
 unfold dH;rw[List.map_map];exact List.map_congr_left fun i _=>rfl
theorem arrV_frzT{b sz n':Nat}{row:Nat->List D} :(dH k n f).map (uU b sz n' row)=dH k n f:=by
 unfold dH;rw[List.map_map];exact List.map_congr_left fun i _=>rfl
theorem yB:eu (dH k n f) (dH k n f):=by
 unfold dH;have: ∀l:List Nat,eu (l.map fun i=>AV.d (.v (.int k (f i)))) (l.map fun i=>AV.d (.v (.int k (f i)))):=by
  intro l;induction l with
  |nil=>trivial
  |cons x l ih=>exact⟨rfl,ih⟩
 exact this _
theorem P5{m:Nat} : ∀{l l':List AV},iG m l->iG m l'->iG m (l++l')
 |[],_,_,h=>h
 |x::l,l',h,h'=>⟨h.1,P5 h.2 h'⟩
theorem arrV_underA{m:Nat}{l:List AV} :iG m (dH k n f++l)=iG m l:=by
 apply propext;constructor
 ·intro h;have: ∀(l1 l2:List AV),iG m (l1++l2)->iG m l2:=by
   intro l1;induction l1 with
   |nil=>exact fun _ h=>h
   |cons x l1 ih=>exact fun l2 h=>ih l2 h.2
  exact this _ _ h
 ·exact P5 Tn
end Go.aU
