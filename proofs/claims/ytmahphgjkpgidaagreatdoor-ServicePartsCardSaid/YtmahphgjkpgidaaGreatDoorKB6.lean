/- Contracts and lemmas, joined out of smaller texts by a program; no conditions. -/
import Derived.Test.YtmahphgjkpgidaaGreatDoorKB2
import Derived.Shelf.SlSortCmp.WholeK
import Derived.Laws.RangeString
import Derived.Laws.RangeAny
import Derived.Shelf.GgClosure.StringsIndexFunc
import Derived.Lib.IndexMore
set_option linter.unusedVariables false
set_option linter.unusedSimpArgs false
namespace Go.aU
open Go.Sort Go.Proofs
section
variable {α : Type} [Inhabited α] {enc : α -> List Value} {k : Nat}
end
end Go.aU
namespace Go.dh
def bt(s:ByteArray)(i:Nat):Nat:=((s[i]?).getD 0).toNat
theorem bt_lt{s:ByteArray}{i:Nat}(h:i<s.size):bt s i=(s[i]'h).toNat:=by unfold bt;rw[getElem?_pos s i h];rfl
def EG(c:Nat):Bool:=decide (c<32)||decide (126<c)
theorem idx_out(s:ByteArray): ∀f pos,s.size<=pos+f->(0<=Lib.idxFuncFrom EG true s f pos↔∃i,pos<=i/\i<s.size/\EG (bt s i)=true)
 |0,pos,h=>by
  simp only[Lib.idxFuncFrom];constructor
  ·intro h0;omega
  ·rintro⟨i,h1,h2,_⟩;omega
 |f+1,pos,h=>by
  simp only[Lib.idxFuncFrom];by_cases hp:pos<s.size
  ·rw[if_pos hp];by_cases ha:(s[pos]'hp).toNat<128
   ·rw[Go.decode_ascii s pos hp ha];simp only;rw[←bt_lt hp];by_cases ho:EG (bt s pos)=true
    ·rw[if_pos ho];exact⟨fun _=>⟨pos,Nat.le_refl _,hp,ho⟩,fun _=>by omega⟩
    ·rw[if_neg ho,idx_out s f (pos+1) (by omega)];constructor
     ·rintro⟨i,h1,h2,h3⟩;exact⟨i,by omega,h2,h3⟩
     ·rintro⟨i,h1,h2,h3⟩;have:i≠pos:=fun e=>ho (e▸h3);exact⟨i,by omega,h2,h3⟩
   ·have hd:=(Go.decode_high s pos hp (by omega)).1;have ho:EG (Utf8.decode s pos).1=true:=by unfold EG;simp;omega
    rw[if_pos ho];refine⟨fun _=>⟨pos,Nat.le_refl _,hp,?_⟩,fun _=>by omega⟩;rw[bt_lt hp];unfold EG;simp;omega
  ·rw[if_neg hp];constructor
   ·intro h0;omega
   ·rintro⟨i,h1,h2,_⟩;omega
theorem idx_two: ∀(l:List UInt8) (c:UInt8),0<=Lib.index l [c,c]↔∃i,l[i]? =some c/\l[i+1]? =some c
 |[],c=>by simp[Lib.index]
 |b::l,c=>by
  have ih:=idx_two l c;rw[Lib.index];by_cases hp:[c,c].isPrefixOf (b::l)=true
  ·rw[if_pos hp];simp only[Int.le_refl,true_iff];cases l with
   |nil=>simp[List.isPrefixOf] at hp
   |cons d l=>
    simp[List.isPrefixOf] at hp;exact⟨0,by simp[hp.1],by simp[hp.2]⟩
  ·rw[if_neg hp];have hge: ∀(l:List UInt8) (sub:List UInt8),-1<=Lib.index l sub:=by
    intro l sub;induction l with
    |nil=>rw[Lib.index];split<;>omega
    |cons b l ih=>
     rw[Lib.index];split;·omega
     split<;>omega
   have h1:=hge l [c,c];have h2:0<=(if(Lib.index l [c,c]== -1)=true then(-1:Int) else Lib.index l [c,c]+1)↔0<=Lib.index l [c,c]:=by
    by_cases he:Lib.index l [c,c]= -1
    ·rw[he];simp
    ·rw[if_neg (by simpa using he)];omega
   rw[h2,ih];constructor
   ·rintro⟨i,h3,h4⟩;exact⟨i+1,by simpa using h3,by simpa using h4⟩
   ·rintro⟨i,h3,h4⟩;cases i with
    |zero=>
     exfalso;apply hp;simp at h3 h4;cases l with
     |nil=>simp at h4
     |cons d l=>simp at h4;subst h3;subst h4;simp[List.isPrefixOf]
    |succ i=>exact⟨i,by simpa using h3,by simpa using h4⟩
theorem PS(s:ByteArray)(i:Nat)(hi:i<s.size)(c:UInt8):s.data.toList[i]? =some c↔bt s i=c.toNat:=by
 have e:s.data.toList[i]? =some (s[i]'hi):=by
  rw[Array.getElem?_toList];have:i<s.data.size:=hi;rw[Array.getElem?_eq_getElem this];rfl
 rw[e,bt_lt hi,Option.some.injEq];exact⟨fun h=>by rw[h],fun h=>UInt8.toNat_inj.1 h⟩
theorem XG(s:ByteArray):Lib.contains s.data.toList [32,32]=true↔∃i,i+1<s.size/\bt s i=32/\bt s (i+1)=32:=by
 unfold Lib.contains;rw[decide_eq_true_iff,idx_two];have hs:s.data.toList.length=s.size:=by rw[Array.length_toList];rfl
 constructor
 ·rintro⟨i,h1,h2⟩;have h3:i+1<s.size:=by rw[←hs];exact(List.getElem?_eq_some_iff.1 h2).1
  exact⟨i,h3,(PS s i (by omega) 32).1 h1,(PS s (i+1) h3 32).1 h2⟩
 ·rintro⟨i,h1,h2,h3⟩;exact⟨i,(PS s i (by omega) 32).2 h2,(PS s (i+1) h1 32).2 h3⟩
def nameAt(s:ByteArray)(i:Nat):Bool:=decide (32<=bt s i)&&decide (bt s i<=126)&& !(decide (0<i)&&decide (bt s i=32)&&decide (bt s (i-1)=32))
def F8(s:ByteArray):Bool:=decide (1<=s.size)&&decide (s.size<=64)&& !decide (bt s 0=32)&& !decide (bt s (s.size-1)=32)&&(List.range s.size).all (nameAt s)
theorem named_prog(s:ByteArray):F8 s=(decide (1<=s.size)&&decide (s.size<=64)&& !decide (bt s 0=32)&& !decide (bt s (s.size-1)=32)&& !Lib.contains s.data.toList [32,32]&& !decide (0<=Lib.idxFunc EG true s)):=by
 have h1:=idx_out s s.size 0 (by omega);have h2:=XG s;have key:(List.range s.size).all (nameAt s)=(!Lib.contains s.data.toList [32,32]&& !decide (0<=Lib.idxFunc EG true s)):=by
  rw[Bool.eq_iff_iff];simp only[List.all_eq_true,List.mem_range,Bool.and_eq_true,Bool.not_eq_true',decide_eq_false_iff_not];unfold Lib.idxFunc;rw[h1,←Bool.not_eq_true,h2];constructor
  ·intro h;refine⟨?_,?_⟩
   ·rintro⟨i,h3,h4,h5⟩;have:=h (i+1) h3;simp[nameAt,h4,h5] at this
   ·rintro⟨i,_,h3,h4⟩;have:=h i h3;simp[nameAt] at this;simp[EG] at h4;omega
  ·rintro⟨h3,h4⟩ i hi;have h5: ¬EG (bt s i)=true:=fun h=>h4 ⟨i,by omega,hi,h⟩;simp[EG] at h5;simp only[nameAt,Bool.and_eq_true,decide_eq_true_eq,Bool.not_eq_true',Bool.and_eq_false_iff,decide_eq_false_iff_not];refine⟨⟨by omega,by omega⟩,?_⟩;by_cases h0:0<i
   ·by_cases h6:bt s i=32
    ·right;intro h7;exact h3 ⟨i-1,by omega,h7,by rw[show i-1+1=i by omega];exact h6⟩
    ·left;right;exact h6
   ·left;left;exact h0
 unfold F8;rw[key];simp only[Bool.and_assoc]
end Go.dh
