/- Contracts and lemmas, joined out of smaller texts by a program; no conditions. -/
import Derived.WalkKit
import Derived.Orders
import Derived.TacticsIn
import Derived.OrdersIn
import Derived.RangeFuncRecord
import Derived.Maps.RangeRun
import Derived.MapKept
import Derived.Laws.StructEq
import Derived.Lib.AppendZerosOnto
import Derived.Laws.BytesArg
import Derived.Lib.ConvBytes
set_option linter.unusedVariables false
set_option linter.unusedSimpArgs false
namespace Go.aU
inductive D where
 |v (x:Value)
 |sl (cap:Option Nat) (sz n:Nat) (row:Nat->List D)
instance:Inhabited D:=⟨.v undef⟩
inductive Key where
 |i (x:Int)
 |s (b:ByteArray)
 deriving DecidableEq
def Key.v:Key->Value
 | .i x=> .int .i64 x
 | .s b=> .string b
def Key.str:Key->Bool
 | .i _=>false
 | .s _=>true
inductive AV where
 |undef
 |iff (b:Bool) (x:AV)
 |d (x:D)
 |agg (cs:List AV)
 |eX (vs:List AV)
 |ptr (b off:Nat)
 |pe (b sz i k:Nat)
 |el (cs:List D)
 |op (b:Bool) (cs:List D)
 |ms (b sz lo n:Nat)
 |mc (b sz lo n c:Nat)
 |mp (b:Nat)
 |clo (fn:Fn) (first captured:List AV)
 |xX (b:Nat)
 |fm (d:Bool) (ks:List Key) (f:Key->D)
instance:Inhabited AV:=⟨.undef⟩
abbrev Js:=List (Option Nat)
def get:List (Nat×AV)->Nat->Option AV
 |[],_=>none
 |(k',v)::t,k=>if Nat.beq k' k then some v else get t k
inductive RD(w:World)(j:Js):D->Value->Prop
 |v (x:Value):RD w j (.v x) x
 |sl {cap:Option Nat} {sz n:Nat} {row:Nat->List D} (a:Addr) (c:Nat) (val:Nat->Nat->Value)
   (hcap:cap=none\/cap=some c) (hle:n<=c) (ha:a.spot=none) (hlt:a.block<w.heap.size) (hb:some a.block∉j)
   (hlen: ∀i,i<n->(row i).length=sz)
   (hcell: ∀i,i<n->∀k,k<sz->w.cell? ⟨a.block,a.off+i*sz+k,none⟩=some (val i k))
   (hrel: ∀i,i<n->∀k,k<sz->RD w j ((row i).getD k default) (val i k)):RD w j (.sl cap sz n row) (.slice (some a) n c)
 |zero {cap:Option Nat} {sz:Nat} {row:Nat->List D} (p:Option Addr) (c:Nat) (hcap:cap=none\/cap=some c) (hp:p=none->c=0):RD w j (.sl cap sz 0 row) (.slice p 0 c)
structure MapD(w:World)(j:Js)(es:Array MapEntry)(clock:Nat)(d:Bool)(ks:List Key)(f:Key->D):Prop where
 stamped:MapKept.Stamped es clock
 keys:(es.toList.map (·.key)).Perm (ks.map Key.v)
 kind: ∀k∈ks,k.str=d
 rel: ∀e∈es.toList,∀k,e.key=k.v->RD w j (f k) e.val
inductive R(w:World)(j:Js):AV->Value->Prop
 |undef (v:Value):R w j .undef v
 |iff {b:Bool} {x:AV} {v:Value} (h:b=true->R w j x v) (h0:b=false->v=Go.undef):R w j (.iff b x) v
 |d {x:D} {v:Value} (h:RD w j x v):R w j (.d x) v
 |agg {cs:List AV} (vs:Array Value) (hs:vs.size=cs.length) (h: ∀k,k<cs.length->R w j (cs.getD k .undef) (vs.getD k Go.undef)):R w j (.agg cs) (.agg vs)
 |eX {cs:List AV} (vs:Array Value) (hs:cs.length<=vs.size) (h: ∀k,k<cs.length->R w j (cs.getD k .undef) (vs.getD k Go.undef)):R w j (.eX cs) (.tuple vs)
 |ptr {b off cb:Nat} (h:j[b]? =some (some cb)):R w j (.ptr b off) (.pointer (some ⟨cb,off,none⟩))
 |pe {b sz i k cb:Nat} (h:j[b]? =some (some cb)):R w j (.pe b sz i k) (.pointer (some ⟨cb,i*sz+k,none⟩))
 |el {cs:List D} (a:Addr) (val:Nat->Value) (ha:a.spot=none) (hlt:a.block<w.heap.size) (hb:some a.block∉j)
   (hcell: ∀k,k<cs.length->w.cell? ⟨a.block,a.off+k,none⟩=some (val k))
   (hrel: ∀k,k<cs.length->RD w j (cs.getD k default) (val k)):R w j (.el cs) (.pointer (some a))
 |op {b:Bool} {cs:List D} {v:Value} (h:b=true->R w j (.el cs) v) (h0:b=false->v= .pointer none):R w j (.op b cs) v
 |ms {b sz lo n cb:Nat} (c e m:Nat) (h:j[b]? =some (some cb)) (hs:w.shape? cb=some (e,m)) (hn:n<=c) (hm:(lo+c)*sz=m):R w j (.ms b sz lo n) (.slice (some ⟨cb,lo*sz,none⟩) n c)
 |ms0 {b sz:Nat} (p:Option Addr) (h:j[b]? =some none):R w j (.ms b sz 0 0) (.slice p 0 0)
 |sN {b sz lo cb:Nat} (p:Option Addr) (e m:Nat) (h:j[b]? =some (some cb)) (hs:w.shape? cb=some (e,m)) (hlo:0<lo) (hm:lo*sz=m):R w j (.ms b sz lo 0) (.slice p 0 0)
 |mc {b sz lo n c:Nat} {v:Value} (h:R w j (.ms b sz lo n) v) (q:Option Addr) (hv:v= .slice q n c):R w j (.mc b sz lo n c) v
 |mp {b cb:Nat} (h:j[b]? =some (some cb)):R w j (.mp b) (.map (some cb))
 |clo {fn:Fn} {fs cs:List AV} (ff cc:Array Value) (h1:ff.size=fs.length) (h2:cc.size=cs.length)
   (h3: ∀k,k<fs.length->R w j (fs.getD k .undef) (ff.getD k Go.undef)) (h4: ∀k,k<cs.length->R w j (cs.getD k .undef) (cc.getD k Go.undef)):R w j (.clo fn fs cs) (.func fn ff cc)
 |xX {b cb:Nat} (h:j[b]? =some (some cb)):R w j (.xX b) (.func (.yield cb) #[] #[])
 |fm {d:Bool} {ks:List Key} {f:Key->D} (c cl:Nat) (es:Array MapEntry) (hlt:c<w.heap.size) (hb:some c∉j) (xB:w.heap[c]? =some (.map es cl)) (hm:MapD w j es cl d ks f):R w j (.fm d ks f) (.map (some c))
def RT(w:World)(j:Js)(N:Nat)(t:List (Nat×AV))(tmps:Array Value):Prop:=
 tmps.size=N/\∀k av,(k,av)∈t->k<N/\R w j av (tmps.getD k Go.undef)
structure jo where
 N:Nat
 t:List (Nat×AV)
 ps:Array Tmp
 assign:Code
 body:Code
mutual
def AV.free:AV->Bool
 | .undef=>true
 | .iff b x=> !b||x.free
 | .d _=>true
 | .agg cs=>vP cs
 | .eX cs=>vP cs
 | .ptr _ _=>false
 | .pe _ _ _ _=>false
 | .el _=>true
 | .op _ _=>true
 | .ms _ _ _ _=>false
 | .mc _ _ _ _ _=>false
 | .mp _=>false
 | .clo _ fs cs=>vP fs&&vP cs
 | .xX _=>false
 | .fm _ _ _=>true
def vP:List AV->Bool
 |[]=>true
 |x::xs=>x.free&&vP xs
end
structure ji(w:World)(j:Js)(es:Array MapEntry)(clock:Nat)(d:Bool)(ks:List Key)(f:Key->AV):Prop where
 stamped:MapKept.Stamped es clock
 keys:(es.toList.map (·.key)).Perm (ks.map Key.v)
 kind: ∀k∈ks,k.str=d
 free: ∀k,(f k).free=true
 rel: ∀e∈es.toList,∀k,e.key=k.v->R w j (f k) e.val
structure sJ(w:World)(j:Js)(mb:Nat)(es:Array MapEntry)(clock:Nat)(seen:Array Nat)(left:List Key)(cur:Option Key)(f:Key->AV):Prop where
 lt:mb<w.heap.size
 own:some mb∉j
 heap:w.heap[mb]? =some (.map es clock)
 stamped:MapKept.Stamped es clock
 keys:((leftOf es seen).toList.map (·.key)).Perm (left.map Key.v)
 cur: ∀k,cur=some k->∃e∈es.toList,e.key=k.v/\∃sn:Array Nat,seen=sn.push e.born
 free: ∀k,(f k).free=true
 rel: ∀e∈es.toList,∀k,e.key=k.v->R w j (f k) e.val
inductive aC where
 |var (cs:List AV)
 |arr (sz n:Nat) (row:Nat->List D)
 |lp (L:jo) (st:LoopState) (pd:Option Code)
 |dead
 |loc (c:Nat)
 |tab (c:Nat) (vs:Array Value)
 |mp (d:Bool) (ks:List Key) (f:Key->AV)
 |QH (d:Bool) (ks:List Key) (f:Key->AV) (κ:Key) (q:Nat)
 |it (left:List Key) (cur:Option Key) (f:Key->AV)
def Hu(es:Array MapEntry)(κ:Key)(q:Nat):Prop:= ∃i e,es.findIdx? (fun e=>(e.born:Int)==(q:Int))=some i/\es[i]? =some e/\e.key=κ.v
def CA(w:World)(cb:Nat)(C:Array Value)(e:TypeId)(sz:Nat):Prop:= ∃f:Nat×Nat,w.heap[cb]? =some (.cells C e f)/\(C.size<=f.1/\sz=1\/f=(0,0))
theorem CA.mk0{w:World}{cb:Nat}{C:Array Value}{e:TypeId}{sz:Nat}(h:w.heap[cb]? =some (.cells C e (0,0))):CA w cb C e sz:=⟨_,h,.inr rfl⟩
theorem CA.at{w w':World}{cb:Nat}{C:Array Value}{e:TypeId}{sz:Nat}(h:CA w cb C e sz)(hw:w'.heap[cb]? =w.heap[cb]?):CA w' cb C e sz:=let⟨f,h1,h2⟩:=h;⟨f,hw.trans h1,h2⟩
def RB(w:World)(j:Js):aC->Option Nat->Prop
 | .dead,_=>True
 | .loc c,o=>o=none/\c<w.heap.size/\some c∉j/\∃m,w.cell? ⟨c,0,none⟩=some (.int .i64 m)
 | .tab c vs,o=>o=none/\c<w.heap.size/\some c∉j/\∃e,w.shape? c=some (e,vs.size)/\∀i,w.cell? ⟨c,i,none⟩=vs[i]?
 | .var cs,some cb=> ∃C e,w.heap[cb]? =some (.cells C e (0,0))/\C.size=cs.length/\∀k,k<cs.length->R w j (cs.getD k .undef) (C.getD k Go.undef)
 | .arr sz n row,some cb=> ∃C e,CA w cb C e sz/\n*sz<=C.size/\∀i,i<n->(row i).length=sz/\∀k,k<sz->RD w j ((row i).getD k default) (C.getD (i*sz+k) Go.undef)
 | .arr _ n _,none=>n=0
 | .lp L st pd,some cb=> ∃r:Loop,w.heap[cb]? =some (.loop r)/\(r.state=st/\r.pending=pd/\r.params=L.ps/\r.assign=L.assign/\r.body=L.body)/\RT w j L.N L.t r.tmps
 | .lp _ _ _,none=>False
 | .mp d ks f,some cb=> ∃es clock,w.heap[cb]? =some (.map es clock)/\ji w j es clock d ks f
 | .mp _ _ _,none=>False
 | .QH d ks f κ q,some cb=> ∃es clock,w.heap[cb]? =some (.map es clock)/\ji w j es clock d ks f/\Hu es κ q
 | .QH _ _ _ _ _,none=>False
 | .it left cur f,some cb=> ∃mb es clock seen,w.heap[cb]? =some (.mapIter (some mb) clock seen clock)/\sJ w j mb es clock seen left cur f
 | .it _ _ _,none=>False
 | .var _,none=>False
structure aS(w:World)(j:Js)(σ:List aC):Prop where
 len:j.length=σ.length
 lt: ∀b cb:Nat,j[b]? =some (some cb)->cb<w.heap.size
 inj: ∀b b' cb:Nat,j[b]? =some (some cb)->j[b']? =some (some cb)->b=b'
 blk: ∀(b:Nat) x,σ[b]? =some x->∃o,j[b]? =some o/\RB w j x o
structure Ev(j:Js)(w:World)(j':Js)(w':World):Prop where
 size:w.heap.size<=w'.heap.size
 keep: ∀b,b<w.heap.size->some b∉j->w'.heap[b]? =w.heap[b]?
 sub: ∀b,b<w.heap.size->some b∈j'->some b∈j
 Xa: ∀b,b<w.heap.size->w'.shape? b=w.shape? b
 uN: ∀a:Addr,a.block<w.heap.size->w'.frozen? a=w.frozen? a
 os:w'.os=w.os
 tape:w'.tape=w.tape
 output:w'.output=w.output
 lps: ∀(b:Nat) r,w.heap[b]? =some (.loop r)->∃r',w'.heap[b]? =some (.loop r')
theorem Ev.refl(j:Js)(w:World):Ev j w j w:=⟨Nat.le_refl _,fun _ _ _=>rfl,fun _ _ h=>h,fun _ _=>rfl,fun _ _=>rfl,rfl,rfl,rfl,fun _ r h=>⟨r,h⟩⟩
theorem Ev.trans{j j1 j2:Js}{w w1 w2:World}(h:Ev j w j1 w1)(k:Ev j1 w1 j2 w2):Ev j w j2 w2 where
 size:=Nat.le_trans h.size k.size
 keep b hb hn:=by
  rw[k.keep b (Nat.lt_of_lt_of_le hb h.size) (fun hm=>hn (h.sub b hb hm)),h.keep b hb hn]
 sub b hb hm:=h.sub b hb (k.sub b (Nat.lt_of_lt_of_le hb h.size) hm)
 Xa b hb:=by rw[k.Xa b (Nat.lt_of_lt_of_le hb h.size),h.Xa b hb]
 uN a ha:=by rw[k.uN a (Nat.lt_of_lt_of_le ha h.size),h.uN a ha]
 os:=by rw[k.os,h.os]
 tape:=by rw[k.tape,h.tape]
 output:=by rw[k.output,h.output]
 lps b r hb:=by
  obtain⟨r',h1⟩:=h.lps b r hb;exact k.lps b r' h1
def Ag(j j':Js)(X:List Nat):Prop:= ∀b:Nat,b<j.length->b∉X->j'[b]? =j[b]?
theorem Ag.refl(j:Js)(X:List Nat):Ag j j X:=fun _ _ _=>rfl
theorem xK{w w':World}{a:Addr}(h:w'.heap[a.block]? =w.heap[a.block]?):w'.cell? a=w.cell? a:=by
 simp only[World.cell?,h]
theorem RD.mono{j j':Js}{w w':World}(he:Ev j w j' w'){d:D}{v:Value}(h:RD w j d v):RD w' j' d v:=by
 induction h with
 |v x=>exact .v x
 |sl a c val hcap hle ha hlt hb hlen hcell hrel ih=>
  refine .sl a c val hcap hle ha (Nat.lt_of_lt_of_le hlt he.size) (fun hm=>hb (he.sub _ hlt hm)) hlen (fun i hi k hk=> ?_) ih;exact(xK (a:=⟨a.block,_,none⟩) (he.keep a.block hlt hb)).trans (hcell i hi k hk)
 |zero p c hcap hp=>exact .zero p c hcap hp
mutual
def AV.avoids(X:List Nat):AV->Bool
 | .undef=>true
 | .iff b x=> !b||x.avoids X
 | .d _=>true
 | .agg cs=>dK X cs
 | .eX cs=>dK X cs
 | .ptr b _=> !X.contains b
 | .pe b _ _ _=> !X.contains b
 | .el _=>true
 | .op _ _=>true
 | .ms b _ _ _=> !X.contains b
 | .mc b _ _ _ _=> !X.contains b
 | .mp b=> !X.contains b
 | .clo _ fs cs=>dK X fs&&dK X cs
 | .xX b=> !X.contains b
 | .fm _ _ _=>true
def dK(X:List Nat):List AV->Bool
 |[]=>true
 |x::xs=>x.avoids X&&dK X xs
end
theorem gB{X:List Nat} : ∀{cs:List AV} {k:Nat},dK X cs=true->k<cs.length->(cs.getD k .undef).avoids X=true
 |[],_,_,hk=>by simp at hk
 |x::xs,0,h,_=>by simp[dK] at h;simpa using h.1
 |x::xs,k+1,h,hk=>by
  simp[dK] at h;have:=gB (k:=k) h.2 (by simpa using hk);simpa using this
theorem MapD.mono{j j':Js}{w w':World}(he:Ev j w j' w'){es:Array MapEntry}{cl:Nat}{d:Bool}{ks:List Key}{f:Key->D}(h:MapD w j es cl d ks f):MapD w' j' es cl d ks f:=
 ⟨h.stamped,h.keys,h.kind,fun e hm k hk=>(h.rel e hm k hk).mono he⟩
theorem R.mono{j j':Js}{X:List Nat}{w w':World}(he:Ev j w j' w')(hl: ∀b cb:Nat,j[b]? =some (some cb)->cb<w.heap.size)(hag:Ag j j' X){av:AV}{v:Value}(h:R w j av v)(ha:av.avoids X=true):R w' j' av v:=by
 have key: ∀{b:Nat} {o},j[b]? =some o->X.contains b=false->j'[b]? =some o:=by
  intro b o h1 h2;rw[hag b (by
   rcases Nat.lt_or_ge b j.length with h|h
   ·exact h
   ·simp[h] at h1) (by simpa using h2)];exact h1
 induction h with
 |undef v=>exact .undef v
 |iff h h0 ih=>exact .iff (fun hb=>ih hb (by simpa[AV.avoids,hb] using ha)) h0
 |d h=>exact .d (h.mono he)
 |agg vs hs h ih=>exact .agg vs hs fun k hk=>ih k hk (gB (by simpa[AV.avoids] using ha) hk)
 |eX vs hs h ih=>exact .eX vs hs fun k hk=>ih k hk (gB (by simpa[AV.avoids] using ha) hk)
 |ptr h=>exact .ptr (key h (by simpa[AV.avoids] using ha))
 |pe h=>exact .pe (key h (by simpa[AV.avoids] using ha))
 |el a val hs hlt hb hcell hrel=>
  refine .el a val hs (Nat.lt_of_lt_of_le hlt he.size) (fun hm=>hb (he.sub _ hlt hm)) (fun k hk=> ?_) (fun k hk=>(hrel k hk).mono he);exact(xK (a:=⟨a.block,_,none⟩) (he.keep a.block hlt hb)).trans (hcell k hk)
 |op h h0 ih=>exact .op (fun hb=>ih hb rfl) h0
 |ms c e m h hs hn hm=>exact .ms c e m (key h (by simpa[AV.avoids] using ha)) (by rw[he.Xa _ (hl _ _ h)];exact hs) hn hm
 |ms0 p h=>exact .ms0 p (key h (by simpa[AV.avoids] using ha))
 |sN p e m h hs hlo hm=>exact .sN p e m (key h (by simpa[AV.avoids] using ha)) (by rw[he.Xa _ (hl _ _ h)];exact hs) hlo hm
 |mc h q hv ih=>exact .mc (ih (by simpa[AV.avoids] using ha)) q hv
 |mp h=>exact .mp (key h (by simpa[AV.avoids] using ha))
 |xX h=>exact .xX (key h (by simpa[AV.avoids] using ha))
 |fm c cl es hlt hb xB hm=>exact .fm c cl es (Nat.lt_of_lt_of_le hlt he.size) (fun h=>hb (he.sub _ hlt h)) ((he.keep c hlt hb).trans xB) (hm.mono he)
 | @clo fn fs cs ff cc h1 h2 h3 h4 ih3 ih4=>
  have hb:dK X fs=true/\dK X cs=true:=by simpa[AV.avoids] using ha
  exact .clo ff cc h1 h2 (fun k hk=>ih3 k hk (gB hb.1 hk)) (fun k hk=>ih4 k hk (gB hb.2 hk))
def put:List (Nat×AV)->Nat->AV->List (Nat×AV)
 |[],k,v=>[(k,v)]
 |(k',v')::t,k,v=>if Nat.beq k' k then(k,v)::t else if Nat.blt k k' then(k,v)::(k',v')::t else(k',v')::put t k v
def del:List (Nat×AV)->Nat->List (Nat×AV)
 |[],_=>[]
 |(k',v')::t,k=>if Nat.beq k' k then del t k else(k',v')::del t k
theorem get_put(t:List (Nat×AV))(k k':Nat)(v:AV):get (put t k v) k'=if k=k' then some v else get t k':=by
 induction t with
 |nil=>by_cases h:k=k'<;>simp[put,get,h]
 |cons x t ih=>
  obtain⟨q,u⟩:=x;simp only[put];by_cases h1:q=k
  ·subst h1;by_cases h:q=k'<;>simp[get,h]
  ·rw[if_neg (by simpa using h1)];split
   ·by_cases h:k=k'<;>simp[get,h]
   ·by_cases h:k=k'
    ·subst h;simp[get,h1,ih]
    ·simp only[get,ih,h,if_false]
theorem Cj(t:List (Nat×AV))(k k':Nat):get (del t k) k'=if k=k' then none else get t k':=by
 induction t with
 |nil=>by_cases h:k=k'<;>simp[del,get,h]
 |cons x t ih=>
  obtain⟨q,u⟩:=x;simp only[del];by_cases h1:q=k
  ·subst h1;rw[if_pos (by simp),ih];by_cases h:q=k'<;>simp[get,h]
  ·rw[if_neg (by simpa using h1)];by_cases h:k=k'
   ·subst h;simp[get,h1,ih]
   ·simp only[get,ih,h,if_false]
structure St where
 N:Nat
 t:List (Nat×AV)
 σ:List aC
 mv:List Nat
structure J0 where
 js:Js
 n0:Nat
 rd:Option Nat
def Marks(n0:Nat)(w:World)(j:Js)(ds:List Deferred):Prop:=
 (n0<=w.heap.size/\ds.Pairwise (fun d d'=>d.target≠d'.target))/\∀d∈ds,∃r,d= { target:= .collected r,args:= #[] }/\n0<=r/\some r∉j/\w.heap[r]? =some (.deferred (some []))
theorem Marks.mono{n0:Nat}{w w':World}{j j':Js}{ds:List Deferred}(h:Marks n0 w j ds)(he:Ev j w j' w'):Marks n0 w' j' ds:=
 ⟨⟨Nat.le_trans h.1.1 he.size,h.1.2⟩,fun d hd=>by
  obtain⟨r,h1,h2,h3,h4⟩:=h.2 d hd;have hlt:r<w.heap.size:=(Array.getElem?_eq_some_iff.1 h4).1;exact⟨r,h1,h2,fun hm=>h3 (he.sub r hlt hm),by rw[he.keep r hlt h3];exact h4⟩⟩
theorem Marks.nil{n0:Nat}{w:World}(hn:n0<=w.heap.size)(j:Js):Marks n0 w j []:=⟨⟨hn,.nil⟩,by simp⟩
structure Rel(j0:J0)(s:St)(j:Js)(a:Act)(w:World):Prop where
 defers:Marks j0.n0 w j a.defers
 jw: ∀l,j0.rd=some l->∃r,w.heap[l]? =some (.loop r)
 size:a.tmps.size=s.N
 tmp: ∀k av,get s.t k=some av->k<s.N/\R w j av (a.tmps.getD k Go.undef)
 cZ:aS w j s.σ
 len0:j0.js.length<=j.length
 ag:Ag j0.js j s.mv
theorem Rel.rdok'{j0:J0}{s:St}{j j':Js}{a:Act}{w w':World}(h:Rel j0 s j a w)(he:Ev j w j' w'): ∀l,j0.rd=some l->∃r,w'.heap[l]? =some (.loop r):=fun l hl=>by
 obtain⟨r,hr⟩:=h.jw l hl;exact he.lps l r hr
def D5(j0:J0)(j:Js)(w:World)(Q:Exit->St->Prop)(e:Exit)(a':Act)(w':World):Prop:=
 ∃s' j',Rel j0 s' j' a' w'/\Ev j w j' w'/\Q e s'
def FW(rd:Option Nat):Fence:= { fn:=fun _=>True,depth:=none,alive:=false,round:=rd }
theorem Hw{rd:Option Nat}{n:Nat}{P:Program}{f:FuncId}{args:Array Value}{w:World}{R:Ending->World->Prop}(h:Calls P f args w R):CallsIn (FW rd) n P f args w R:=callsIn_wide.2 h
def dY(P:Program)(c:Code)(Q:Exit->St->Prop)(s:St):Prop:=
 ∀(j0:J0) j a w,Rel j0 s j a w->c.wpIn (FW j0.rd) 0 P (D5 j0 j w Q) a w
def Rs(w:World)(j:Js)(args:List AV)(vs:Array Value):Prop:=
 vs.size=args.length/\∀k,k<args.length->R w j (args.getD k .undef) (vs.getD k Go.undef)
def dO(P:Program)(f:FuncId):Bool:=
 match P.funcs[f]? with
 | some fn => fn.body.isSome && !(fn.name == "runtime.NumGoroutine")
 |none=>false
def CS(P:Program)(f:FuncId)(args:List AV)(σ:List aC)(Q:AV->List aC->List Nat->Prop):Prop:=
 dO P f=true/\∀j w vs,aS w j σ->Rs w j args vs->Calls P f vs w fun e w'=>
  ∃v r σ' j' X,e= .returned v/\aS w' j' σ'/\R w' j' r v/\Ev j w j' w'/\j.length<=j'.length/\Ag j j' X/\Q r σ' X
def ay(P:Program)(f:FuncId)(args:List AV)(σ:List aC)(r:AV):Prop:=
 CS P f args σ fun r' σ' X=>r'=r/\σ'=σ/\X=[]
theorem CS.mono{P:Program}{f:FuncId}{args:List AV}{σ:List aC}{Q Q':AV->List aC->List Nat->Prop}(h:CS P f args σ Q)(hq: ∀r σ' X,Q r σ' X->Q' r σ' X):CS P f args σ Q':=
 ⟨h.1,fun j w vs h1 h2=>(h.2 j w vs h1 h2).mono fun _ _ ⟨v,r,σ',j',X,he,a,b,c,d,e,q⟩=>⟨v,r,σ',j',X,he,a,b,c,d,e,hq _ _ _ q⟩⟩
theorem ay.cs{P:Program}{f:FuncId}{args:List AV}{σ:List aC}{r:AV}{Q:AV->List aC->List Nat->Prop}(h:ay P f args σ r)(hq:Q r σ []):CS P f args σ Q:=
 CS.mono h fun _ _ _ ⟨h1,h2,h3⟩=>by subst h1;subst h2;subst h3;exact hq
def St.put(s:St)(dst:Option Tmp)(av:AV):St:=
 match dst with
 |none=>s
 |some d=>if Nat.blt d s.N then { s with t:=aU.put s.t d av } else { s with t:=aU.del s.t d }
def St.del(s:St)(dst:Option Tmp):St:=
 match dst with
 |none=>s
 |some d=> { s with t:=aU.del s.t d }
theorem xO{m k:Nat}(h:m≠k):Nat.beq m k=false:=by
 cases hb:Nat.beq m k with
 |false=>rfl
 |true=>exact absurd (Nat.eq_of_beq_eq_true hb) h
theorem lH{w:World}{j:Js}{tm:Array Value}{d k:Nat}{v:Value}(hd:d<tm.size):
  (tm.setIfInBounds d v).getD k Go.undef=if d=k then v else tm.getD k Go.undef:=by
 simp only[Array.getD_eq_getD_getElem?,Array.getElem?_setIfInBounds];by_cases h:d=k
 ·subst h;simp[hd]
 ·simp[h]
theorem Rel.put{j0:J0}{j:Js}{s:St}{a:Act}{w:World}(h:Rel j0 s j a w)(dst:Option Tmp){av:AV}{v:Value}(hr:R w j av v):Rel j0 (s.put dst av) j (a.put dst v) w:=by
 cases dst with
 |none=>exact h
 |some d=>
  simp only[St.put,Act.put];by_cases hd:d<s.N
  ·rw[if_pos (by simpa using hd)];refine⟨h.defers,h.jw,by simpa using h.size,fun k P5 hk=> ?_,h.cZ,h.len0,h.ag⟩;simp only at hk⊢;rw[get_put] at hk;rw[lH (w:=w) (j:=j) (by rw[h.size];exact hd)];by_cases hkd:d=k
   ·subst hkd;simp at hk;subst hk;simp;exact⟨hd,hr⟩
   ·rw[if_neg hkd] at hk⊢;exact h.tmp k P5 hk
  ·rw[if_neg (by simpa using hd)];refine⟨h.defers,h.jw,by simpa using h.size,fun k P5 hk=> ?_,h.cZ,h.len0,h.ag⟩;simp only at hk⊢;rw[Cj] at hk;by_cases hkd:d=k
   ·simp[hkd] at hk
   ·simp[hkd] at hk;have hz:a.tmps.setIfInBounds d v=a.tmps:=by
     apply Array.setIfInBounds_eq_of_size_le;rw[h.size];exact Nat.le_of_not_lt hd
    rw[hz];exact h.tmp k P5 hk
theorem Rel.del{j0:J0}{j:Js}{s:St}{a:Act}{w:World}(h:Rel j0 s j a w)(dst:Option Tmp)(v:Value):Rel j0 (s.del dst) j (a.put dst v) w:=by
 cases dst with
 |none=>exact h
 |some d=>
  simp only[St.del,Act.put];refine⟨h.defers,h.jw,by simpa using h.size,fun k P5 hk=> ?_,h.cZ,h.len0,h.ag⟩;simp only at hk⊢;rw[Cj] at hk;by_cases hkd:d=k
  ·simp[hkd] at hk
  ·simp[hkd] at hk;have:=h.tmp k P5 hk;refine⟨this.1,?_⟩;have hz:(a.tmps.setIfInBounds d v).getD k Go.undef=a.tmps.getD k Go.undef:=by
    simp[Array.getD_eq_getD_getElem?,hkd]
   rw[hz];exact this.2
def cO(X:List Nat)(t:List (Nat×AV)):List (Nat×AV):=
 match t with
 |[]=>[]
 |(k,v)::t=>if v.avoids X then(k,v)::cO X t else aU.del (cO X t) k
theorem zi{X:List Nat} : ∀{t:List (Nat×AV)} {k:Nat} {av:AV},get (cO X t) k=some av->get t k=some av/\av.avoids X=true
 |[],_,_,h=>by simp[cO,get] at h
 |(q,u)::t,k,av,h=>by
  have ih:=zi (X:=X) (t:=t) (k:=k) (av:=av);simp only[cO] at h;by_cases hu:u.avoids X=true
  ·rw[if_pos hu] at h;simp only[get] at h⊢;by_cases hq:q=k
   ·simp[hq] at h⊢;subst h;exact⟨rfl,hu⟩
   ·simp only[xO hq] at h⊢;exact ih (by simpa using h)
  ·rw[if_neg hu,Cj] at h;by_cases hq:q=k
   ·simp[hq] at h
   ·simp[hq] at h;have:=ih h;exact⟨by simp[get,hq,this.1],this.2⟩
theorem get_mem: ∀{t:List (Nat×AV)} {k:Nat} {av:AV},get t k=some av->(k,av)∈t
 |[],_,_,h=>by simp[get] at h
 |(q,u)::t,k,av,h=>by
  simp only[get] at h;by_cases hq:q=k
  ·simp[hq] at h;simp[hq,h]
  ·simp only[xO hq,Bool.false_eq_true,if_false] at h;exact List.mem_cons_of_mem _ (get_mem h)
theorem Vp: ∀{t:List (Nat×AV)} {k:Nat} {p:Nat×AV},p∈aU.del t k->p∈t
 |[],_,_,h=>by simp[aU.del] at h
 |(q,u)::t,k,p,h=>by
  simp only[aU.del] at h;split at h
  ·exact List.mem_cons_of_mem _ (Vp h)
  ·rcases List.mem_cons.1 h with h|h
   ·rw[h];simp
   ·exact List.mem_cons_of_mem _ (Vp h)
theorem qY{X:List Nat} : ∀{t:List (Nat×AV)} {k:Nat} {av:AV},(k,av)∈cO X t->(k,av)∈t/\av.avoids X=true
 |[],_,_,h=>by simp[cO] at h
 |(q,u)::t,k,av,h=>by
  simp only[cO] at h;by_cases hu:u.avoids X=true
  ·rw[if_pos hu] at h;rcases List.mem_cons.1 h with h|h
   ·cases h;exact⟨by simp,hu⟩
   ·have:=qY h;exact⟨List.mem_cons_of_mem _ this.1,this.2⟩
  ·rw[if_neg hu] at h;have:=qY (Vp h);exact⟨List.mem_cons_of_mem _ this.1,this.2⟩
theorem Ic{X:List Nat} : ∀{t:List (Nat×AV)},(∀k av,(k,av)∈t->av.avoids X=true)->cO X t=t
 |[],_=>rfl
 |(q,u)::t,h=>by
  simp only[cO];rw[if_pos (h q u (by simp)),Ic fun k av hk=>h k av (List.mem_cons_of_mem _ hk)]
def St.after(s:St)(σ:List aC)(X:List Nat):St:=
 match X with
 |[]=> { s with σ:=σ }
 |X=> { s with σ:=σ,t:=cO X s.t,mv:=s.mv++X }
theorem Ag.trans{j j1 j2:Js}{X Y:List Nat}(h:Ag j j1 X)(hl:j.length<=j1.length)(k:Ag j1 j2 Y):Ag j j2 (X++Y):=by
 intro b hb hn;simp at hn;rw[k b (Nat.lt_of_lt_of_le hb hl) hn.2,h b hb hn.1]
theorem Rel.after{j0:J0}{j j':Js}{s:St}{a:Act}{w w':World}{σ:List aC}{X:List Nat}(h:Rel j0 s j a w)(he:Ev j w j' w')(hs:aS w' j' σ)(hl:j.length<=j'.length)(hag:Ag j j' X):Rel j0 (s.after σ X) j' a w':=by
 have hmv:Ag j0.js j' (s.mv++X):=h.ag.trans h.len0 hag;unfold St.after;split
 ·refine⟨h.defers.mono he,h.rdok' he,h.size,fun k av hk=> ?_,hs,Nat.le_trans h.len0 hl,by simpa using hmv⟩;have:=h.tmp k av hk;refine⟨this.1,this.2.mono he h.cZ.lt hag ?_⟩;exact EM av
 ·refine⟨h.defers.mono he,h.rdok' he,h.size,fun k av hk=> ?_,hs,Nat.le_trans h.len0 hl,hmv⟩;have hk':=zi hk;have:=h.tmp k av hk'.1;exact⟨this.1,this.2.mono he h.cZ.lt hag hk'.2⟩
where
 EM: ∀av:AV,av.avoids []=true:=by
  intro av;induction av using AV.rec (motive_2:=fun l=>dK [] l=true)<;>simp_all [AV.avoids,dK]
def xY(K:St->Prop)(Q:Exit->St->Prop):Exit->St->Prop
 | .normal,s=>K s
 |e,s=>Q e s
def rJ(id:Nat)(Q:Exit->St->Prop):Exit->St->Prop
 | .exit id',s=>if Nat.beq id' id then Q .normal s else Q (.exit id') s
 |e,s=>Q e s
section
variable {P : Program} {Q : Exit -> St -> Prop} {s : St}
theorem dY.mono{c:Code}{Q':Exit->St->Prop}(h:dY P c Q s)(hq: ∀e s,Q e s->Q' e s):dY P c Q' s:=
 fun j0 j a w hr=>wpIn_mono (h j0 j a w hr) fun _ _ _ ⟨s',j',h1,h2,h3⟩=>⟨s',j',h1,h2,hq _ _ h3⟩
theorem aV(h:Q .normal s):dY P .skip Q s:=fun j0 j a w hr=>wpIn_skip ⟨s,j,hr,.refl _ _,h⟩
theorem awp_label{l:Nat}(h:Q .normal s):dY P (.label l) Q s:=fun j0 j a w hr=>wpIn_label ⟨s,j,hr,.refl _ _,h⟩
theorem aj(h:Q .ret s):dY P .ret Q s:=fun j0 j a w hr=>wpIn_ret ⟨s,j,hr,.refl _ _,h⟩
theorem dh{id:Nat}(h:Q (.exit id) s):dY P (.exit id) Q s:=fun j0 j a w hr=>wpIn_exit ⟨s,j,hr,.refl _ _,h⟩
theorem aK{x y:Code}(h:dY P x (xY (dY P y Q) Q) s):dY P (.seq x y) Q s:=by
 intro j0 j a w hr;refine wpIn_seq (wpIn_mono (h j0 j a w hr) ?_);rintro e a' w' ⟨s',j',hr',hev,hq⟩;cases e with
 |normal=>
  refine wpIn_mono (hq j0 j' a' w' hr') ?_;rintro e a'' w'' ⟨s'',j'',h1,h2,h3⟩;exact⟨s'',j'',h1,hev.trans h2,h3⟩
 |exit id=>exact⟨s',j',hr',hev,hq⟩
 |goto l=>exact⟨s',j',hr',hev,hq⟩
 |ret=>exact⟨s',j',hr',hev,hq⟩
 |panic c=>exact⟨s',j',hr',hev,hq⟩
 |outgrown=>exact⟨s',j',hr',hev,hq⟩
theorem aN{id:Nat}{c:Code}(h:dY P c (rJ id Q) s):dY P (.block id c) Q s:=by
 intro j0 j a w hr;refine wpIn_block (wpIn_mono (h j0 j a w hr) ?_);rintro e a' w' ⟨s',j',hr',hev,hq⟩;cases e with
 |exit id'=>
  simp only[rJ] at hq;simp only[Exit.inBlock];by_cases hid:id'=id
  ·subst hid;simp at hq⊢;exact⟨s',j',hr',hev,hq⟩
  ·simp[hid] at hq⊢;exact⟨s',j',hr',hev,hq⟩
 |normal=>exact⟨s',j',hr',hev,hq⟩
 |goto l=>exact⟨s',j',hr',hev,hq⟩
 |ret=>exact⟨s',j',hr',hev,hq⟩
 |panic c=>exact⟨s',j',hr',hev,hq⟩
 |outgrown=>exact⟨s',j',hr',hev,hq⟩
def Sub(s s':St):Prop:= ∀j0 j a w,Rel j0 s j a w->∃j',Rel j0 s' j' a w/\Ev j w j' w
theorem Sub.refl(s:St):Sub s s:=fun _ j _ _ h=>⟨j,h,.refl _ _⟩
theorem Sub.trans{s s' s'':St}(h:Sub s s')(k:Sub s' s''):Sub s s'':=fun j0 j a w hr=>
 let⟨j1,h1,e1⟩:=h j0 j a w hr
 let⟨j2,h2,e2⟩:=k j0 j1 a w h1
 ⟨j2,h2,e1.trans e2⟩
theorem iW{c:Code}{s':St}(hs:Sub s s')(h:dY P c Q s'):dY P c Q s:=by
 intro j0 j a w hr;obtain⟨j',hr',he⟩:=hs j0 j a w hr;exact wpIn_mono (h j0 j' a w hr') fun _ _ _ ⟨s'',j'',h1,h2,h3⟩=>⟨s'',j'',h1,he.trans h2,h3⟩
theorem G9{c:Code}(h:dY P c (fun e s'=> ∃s'',Sub s' s''/\Q e s'') s):dY P c Q s:=by
 intro j0 j a w hr;refine wpIn_mono (h j0 j a w hr) ?_;rintro e a' w' ⟨s',j',hr',hev,s'',hsub,hq⟩;obtain⟨j'',h1,h2⟩:=hsub _ _ _ _ hr';exact⟨s'',j'',h1,hev.trans h2,hq⟩
end
def ofConst:Value->AV
 | .agg cs=> .agg (cs.toList.map fun c=> .d (.v c))
 |v=> .d (.v v)
def val(s:St):Operand->Option AV
 | .tmp t=>get s.t t
 | .const v=>some (ofConst v)
 | .func f=>some (.clo (.func f) [] [])
 | .global _=>none
theorem TN(w:World)(j:Js)(v:Value):R w j (ofConst v) v:=by
 cases v with
 |agg cs=>
  refine .agg cs (by simp) fun k hk=> ?_;simp only[List.length_map,Array.length_toList] at hk;have h1:(cs.toList.map fun c=>AV.d (.v c)).getD k .undef=AV.d (.v (cs.getD k Go.undef)):=by
   simp[List.getD_eq_getElem?_getD,hk,Array.getD_eq_getD_getElem?]
  rw[h1];exact .d (.v _)
 |_=>exact .d (.v _)
theorem ER{j0:J0}{j:Js}{s:St}{a:Act}{w:World}(h:Rel j0 s j a w){x:Operand}{av:AV}(hv:val s x=some av):R w j av (a.eval x):=by
 cases x with
 |tmp t=>exact(h.tmp t av hv).2
 |const v=>simp only[val,Option.some.injEq] at hv;subst hv;exact TN w j v
 |func f=>simp only[val,Option.some.injEq] at hv;subst hv;exact .clo #[] #[] rfl rfl (by simp) (by simp)
 |global g=>simp[val] at hv
theorem AX{P:Program}{Q:Exit->St->Prop}{s:St}{c:Operand}{x y:Code}{b:Bool}(hc:val s c=some (.d (.v (.bool b))))(ht:b=true->dY P x Q s)(hf:b=false->dY P y Q s):dY P (.cond c x y) Q s:=by
 intro j0 j a w hr;have hv:=ER hr hc;have hb:a.eval c= .bool b:=by
  generalize a.eval c=u at hv
  cases hv with|d h=>cases h;rfl
 refine wpIn_cond hb ?_;cases b with
 |true=>exact ht rfl j0 j a w hr
 |false=>exact hf rfl j0 j a w hr
def SA:List AV->Nat->List (Nat×AV)
 |[],_=>[]
 |x::xs,k=>(k,x)::SA xs (k+1)
theorem SC: ∀(args:List AV) (m k:Nat),get (SA args m) k=if m<=k/\k<m+args.length then some (args.getD (k-m) .undef) else none
 |[],m,k=>by simp[SA,get]
 |x::xs,m,k=>by
  simp only[SA,get,SC xs (m+1) k,List.length_cons];by_cases h:m=k
  ·subst h;simp
  ·simp only[xO h,Bool.false_eq_true,if_false];by_cases h2:m+1<=k/\k<m+1+xs.length
   ·rw[if_pos h2,if_pos (by omega),show k-m=(k-(m+1))+1 by omega];simp
   ·rw[if_neg h2,if_neg (by omega)]
def St.init(N:Nat)(args:List AV)(σ:List aC):St:= { N:=N,t:=SA args 0,σ:=σ,mv:=[] }
def cellsOf:AV->List AV
 | .agg cs=>cs
 |x=>[x]
def gQ(P:Program)(t:TypeId):Option (Bool×Nat):=
 match P.underlying t,P.info? t with
 |some (.struct _),some i=>some (true,i.size)
 |some (.array _ _),some i=>some (true,i.size)
 |some _,some i=>some (false,i.size)
 |_,_=>none
theorem BG{P:Program}{t:TypeId}{b:Bool}{m:Nat}(h:gQ P t=some (b,m))(w:World):(isAgg t).run P w= .ok b w:=by
 unfold gQ at h;simp only[isAgg,underlying];split at h<;>simp_all
theorem wG{P:Program}{t:TypeId}{b:Bool}{m:Nat}(h:gQ P t=some (b,m))(w:World):(sizeOf t).run P w= .ok m w:=by
 unfold gQ at h;simp only[Go.sizeOf,typeInfo];split at h<;>simp_all
def uw(σ:List aC)(m:Nat):AV->Option (Prop×List AV)
 | .ptr b off=>match σ[b]? with
  |some (.var cs)=>if Nat.ble (off+m) cs.length then some (True,(cs.drop off).take m) else none
  |_=>none
 | .pe b sz i k=>match σ[b]? with
  |some (.arr sz' n row)=>if Nat.beq sz sz'&&Nat.ble (k+m) sz then some (i<n,(((row i).drop k).take m).map .d) else none
  |_=>none
 | .el cs=>if Nat.ble m cs.length then some (True,(cs.take m).map .d) else none
 | .op b cs=>if Nat.ble m cs.length then some (b=true,(cs.take m).map .d) else none
 |_=>none
theorem dX(a:Addr)(ha:a.spot=none)(n:Nat):a.add n=⟨a.block,a.off+n,none⟩:=by
 cases a with
 |mk b o s=>simp only at ha;subst ha;unfold Addr.add;split<;>simp_all
theorem cell_of{w:World}{cb:Nat}{C:Array Value}{e:TypeId}{f:Nat×Nat}(h:w.heap[cb]? =some (.cells C e f))(o:Nat):w.cell? ⟨cb,o,none⟩=C[o]? :=by
 simp[World.cell?,h]
theorem Uz{w:World}{j:Js}{σ:List aC}(hs:aS w j σ){m:Nat}{av:AV}{v:Value}(hr:R w j av v){side:Prop}{l:List AV}(hl:uw σ m av=some (side,l))(hside:side):
  l.length=m/\∃a:Addr,v= .pointer (some a)/\a.spot=none/\∃f:Nat->Value,∀k,k<m->w.cell? (a.add k)=some (f k)/\R w j (l.getD k .undef) (f k):=by
 cases hr with
 | @ptr b off cb h=>
  simp only[uw] at hl;split at hl
  ·rename_i cs hb;split at hl<;>simp at hl;rename_i hm;obtain⟨hl1,hl2⟩:=hl;subst hl2;simp only[Nat.ble_eq] at hm;obtain⟨o,ho,hB⟩:=hs.blk b _ hb;rw[h] at ho;cases ho
   obtain⟨C,e,hC,hsz,hrel⟩:=hB;refine⟨by simp;omega,_,rfl,rfl,fun k=>C.getD (off+k) Go.undef,fun k hk=>⟨?_,?_⟩⟩
   ·rw[dX _ rfl,cell_of hC];simp[Array.getD_eq_getD_getElem?,show off+k<C.size by omega]
   ·have:=hrel (off+k) (by omega);have e1:((cs.drop off).take m).getD k AV.undef=cs.getD (off+k) AV.undef:=by
     simp[List.getD_eq_getElem?_getD,hk]
    rw[e1];exact this
  ·simp at hl
 | @pe b sz i k cb h=>
  simp only[uw] at hl;split at hl
  ·rename_i sz' n row hb;split at hl<;>simp only[Option.some.injEq,Prod.mk.injEq,reduceCtorEq] at hl;rename_i hm;obtain⟨rfl,rfl⟩:=hl;simp only[Bool.and_eq_true,Nat.ble_eq] at hm;have hsz':=Nat.eq_of_beq_eq_true hm.1;subst hsz';obtain⟨o,ho,hB⟩:=hs.blk b _ hb;rw[h] at ho;cases ho
   obtain⟨C,e,⟨f,hC,hf'⟩,hcs,hrel⟩:=hB;have hf:=Or.imp_left And.left hf';have hri:=hrel i hside;have hbound:i*sz+sz<=n*sz:=by
    have:(i+1)*sz<=n*sz:=Nat.mul_le_mul_right _ hside;rwa [Nat.succ_mul] at this
   refine⟨by have:=hri.1;simp;omega,_,rfl,rfl,fun q=>C.getD (i*sz+(k+q)) Go.undef,fun q hq=>⟨?_,?_⟩⟩
   ·rw[dX _ rfl,cell_of hC];simp[Array.getD_eq_getD_getElem?,show i*sz+(k+q)<C.size by omega,Nat.add_assoc]
   ·have:=hri.2 (k+q) (by omega);have hlen:=hri.1;have e1:((((row i).drop k).take m).map AV.d).getD q AV.undef=AV.d ((row i).getD (k+q) default):=by
     simp[List.getD_eq_getElem?_getD,hq,show k+q<(row i).length by omega]
    rw[e1];exact .d this
  ·simp at hl
 | @el cs a val ha hlt hb hcell hrel=>
  simp only[uw] at hl;split at hl<;>simp only[Option.some.injEq,Prod.mk.injEq,reduceCtorEq] at hl;rename_i hm;obtain⟨rfl,rfl⟩:=hl;simp only[Nat.ble_eq] at hm;refine⟨by simp;omega,_,rfl,ha,val,fun k hk=>⟨?_,?_⟩⟩
  ·rw[dX _ ha];exact hcell k (by omega)
  ·have:=hrel k (by omega);have e1:((cs.take m).map AV.d).getD k AV.undef=AV.d (cs.getD k default):=by
    simp[List.getD_eq_getElem?_getD,hk,show k<cs.length by omega]
   rw[e1];exact .d this
 | @op bb cs v hh h0=>
  simp only[uw] at hl;split at hl<;>simp only[Option.some.injEq,Prod.mk.injEq,reduceCtorEq] at hl;rename_i hm;obtain⟨hsd,rfl⟩:=hl;simp only[Nat.ble_eq] at hm;cases hh (by rw[hsd];exact hside) with
  |el a val ha hlt hb hcell hrel=>
  refine⟨by simp;omega,_,rfl,ha,val,fun k hk=>⟨?_,?_⟩⟩
  ·rw[dX _ ha];exact hcell k (by omega)
  ·have:=hrel k (by omega);have e1:((cs.take m).map AV.d).getD k AV.undef=AV.d (cs.getD k default):=by
    simp[List.getD_eq_getElem?_getD,hk,show k<cs.length by omega]
   rw[e1];exact .d this
 |_=>simp[uw] at hl
def loaded(agg:Bool)(l:List AV):AV:=if agg then .agg l else l.headD .undef
theorem DN{P:Program}{w:World}{j:Js}{σ:List aC}(hs:aS w j σ){t:TypeId}{agg:Bool}{m:Nat}(ht:gQ P t=some (agg,m))(hm:agg=false->m=1){av:AV}{v:Value}(hr:R w j av v){side:Prop}{l:List AV}(hl:uw σ m av=some (side,l))(hside:side):
  ∃a:Addr,v= .pointer (some a)/\∃u,(loadVar t a).run P w= .ok u w/\R w j (loaded agg l) u:=by
 obtain⟨hlen,a,rfl,ha,f,hf⟩:=Uz hs hr hl hside;refine⟨a,rfl,?_⟩;cases agg with
 |true=>
  refine⟨.agg (Array.ofFn fun k:Fin m=>f k),?_,?_⟩
  ·have h1:=run_loadCells (P:=P) (w:=w) a m f (fun j hj=>(hf j hj).1);have h2:(List.map f (List.range m)).toArray=Array.ofFn fun k:Fin m=>f k:=by
    apply Array.ext<;>simp
   simp[loadVar,BG ht,wG ht,h1,h2]
  ·refine .agg _ (by simp[hlen]) fun k hk=> ?_;have:=(hf k (by omega)).2;rw[hlen] at hk;simpa[Array.getD_eq_getD_getElem?,hk] using this
 |false=>
  have h1:=hm rfl;subst h1;have h0:=hf 0 (by omega);refine⟨f 0,?_,?_⟩
  ·have:a.add 0=a:=rfl;rw[this] at h0;simp[loadVar,BG ht,h0.1]
  ·have:loaded false l=l.getD 0 .undef:=by cases l<;>simp[loaded]
   rw[this];exact h0.2
def resA(P:Program)(s:St):ResultVar->Option (Prop×AV)
 | .tmp t=>(get s.t t).map fun x=>(True,x)
 | .cell a t=>match get s.t a,gQ P t with
  |some p,some (agg,m)=>if !agg&& !Nat.beq m 1 then none else(uw s.σ m p).map fun(side,l)=>(side,loaded agg l)
  |_,_=>none
def x8(P:Program)(s:St):List ResultVar->(List AV->Prop)->Prop
 |[],K=>K []
 |r::rs,K=>match resA P s r with
  |some (side,x)=>side/\x8 P s rs fun xs=>K (x::xs)
  |none=>False
def Ko:List AV->AV
 |[x]=>x
 |xs=> .eX xs
def Ns(tm:Array Value):ResultVar->Sem Value
 | .tmp t=>pure (tm.getD t Go.undef)
 | .cell p t=>do loadVar t (←asAddr (tm.getD p Go.undef))
theorem aae(fn:Func)(tm:Array Value):results fn tm=(do let vs←fn.results.mapM (Ns tm);pure (if h:vs.size=1 then vs[0] else .tuple vs)):=by
 have:(fun x:ResultVar=>match x with| .tmp t=>(pure (tm.getD t Go.undef):Sem Value)| .cell a t=>do loadVar t (←asAddr (tm.getD a Go.undef)))=Ns tm:=by
  funext x;cases x<;>rfl
 unfold results;rw[←this];rfl
theorem aaf{P:Program}{j0:J0}{j:Js}{s:St}{a:Act}{w:World}(h:Rel j0 s j a w){r:ResultVar}{side:Prop}{x:AV}(hx:resA P s r=some (side,x))(hside:side):
  ∃v,(Ns a.tmps r).run P w= .ok v w/\R w j x v:=by
 cases r with
 |tmp t=>
  simp only[resA,Option.map_eq_some_iff] at hx;obtain⟨y,hy,he⟩:=hx;cases he
  exact⟨_,rfl,(h.tmp t _ hy).2⟩
 |cell p t=>
  simp only[resA] at hx;split at hx
  ·rename_i q agg m hq ht;split at hx
   ·simp at hx
   ·rename_i hne;simp only[Option.map_eq_some_iff] at hx;obtain⟨⟨sd,l⟩,hl,he⟩:=hx;simp only[Prod.mk.injEq] at he;obtain⟨rfl,rfl⟩:=he;have hrel:=(h.tmp p _ hq).2;obtain⟨ad,hv,u,hu,hru⟩:=DN (P:=P) h.cZ ht (fun ha=>by
     subst ha;simpa using hne) hrel hl hside
    refine⟨u,?_,hru⟩;show(do loadVar t (←asAddr (a.tmps.getD p Go.undef)):Sem Value).run P w=_
    rw[hv];simp[asAddr,hu]
  ·simp at hx
theorem Ju{P:Program}{j0:J0}{j:Js}{s:St}{a:Act}{w:World}(h:Rel j0 s j a w): ∀{rs:List ResultVar} {K:List AV->Prop},x8 P s rs K->
  ∃xs vs,K xs/\xs.length=rs.length/\vs.length=xs.length/\(rs.mapM (Ns a.tmps)).run P w= .ok vs w/\∀k,k<xs.length->R w j (xs.getD k .undef) (vs.getD k Go.undef)
 |[],K,hk=>⟨[],[],hk,rfl,rfl,by simp,by simp⟩
 |r::rs,K,hk=>by
  simp only[x8] at hk;split at hk
  ·rename_i side x hx;obtain⟨v,hv,hrv⟩:=aaf h hx hk.1;obtain⟨xs,vs,hK,h1,h2,h3,h4⟩:=Ju h hk.2;refine⟨x::xs,v::vs,hK,by simp[h1],by simp[h2],?_,?_⟩
   ·rw[List.mapM_cons];simp only[Sem.run_bind,hv,Result.andThen_ok,h3,Sem.run_pure]
   ·intro k hk';cases k with
    |zero=>simpa using hrv
    |succ k=>simpa using h4 k (by simpa using hk')
  ·exact hk.elim
theorem uo{P:Program}{fn:Func}{j0:J0}{j:Js}{s:St}{a:Act}{w:World}(h:Rel j0 s j a w){K:AV->Prop}(hk:x8 P s fn.results.toList fun xs=>K (Ko xs)):
  ∃v x,(results fn a.tmps).run P w= .ok v w/\R w j x v/\K x:=by
 obtain⟨xs,vs,hK,h1,h2,h3,h4⟩:=Ju h hk;have hm:(fn.results.mapM (Ns a.tmps)).run P w= .ok vs.toArray w:=by
  rw[←Array.toArray_toList (xs:=fn.results),List.mapM_toArray];rw[Sem.run_map,h3];rfl
 refine⟨if h:vs.toArray.size=1 then vs.toArray[0] else .tuple vs.toArray,Ko xs,?_,?_,hK⟩
 ·rw[aae,Sem.run_bind,hm];rfl
 ·match xs,vs,h2,h4 with
  |[],[],_,_=>exact .eX #[] (Nat.le_refl _) (by simp)
  |[x],[v],_,h4=>simpa[Ko] using h4 0 (by simp)
  |x::y::xs,v::u::vs,h2,h4=>
   refine R.eX _ (by simp at h2⊢;omega) fun k hk=> ?_;have:=h4 k hk;simpa[Array.getD_eq_getD_getElem?,List.getD_eq_getElem?_getD] using this
def BN(P:Program)(fn:Func)(Q:AV->List aC->List Nat->Prop):Exit->St->Prop
 | .normal,s=>x8 P s fn.results.toList fun xs=>Q (Ko xs) s.σ s.mv
 | .ret,s=>x8 P s fn.results.toList fun xs=>Q (Ko xs) s.σ s.mv
 |_,_=>False
theorem Rs.rel{P:Program}{w:World}{j:Js}{σ:List aC}{args:List AV}{vs:Array Value}(hs:aS w j σ)(h:Rs w j args vs)(N:Nat)(hN:args.length<=N):
  Rel ⟨j,w.heap.size,none⟩ (St.init N args σ) j { tmps:=vs++Array.replicate (N-vs.size) Go.undef,defers:=[] } w where
 defers:= .nil (Nat.le_refl _) _
 jw:=fun l h=>by cases h
 size:=by simp[St.init];have:=h.1;omega
 tmp k av hk:=by
  simp only[St.init,SC] at hk;split at hk<;>simp at hk;subst hk;rename_i hk;simp only[Nat.zero_add] at hk;refine⟨by simp[St.init];omega,?_⟩;have h1:=h.1;have:=h.2 k hk.2;simpa[Array.getD_eq_getD_getElem?,List.getD_eq_getElem?_getD,Array.getElem?_append,show k<vs.size by omega] using this
 cZ:=hs
 len0:=Nat.le_refl _
 ag:= .refl _ _
theorem RD.congr{w w':World}{j:Js}(hc: ∀a,w'.cell? a=w.cell? a)(hs:w.heap.size<=w'.heap.size){d:D}{v:Value}(h:RD w j d v):RD w' j d v:=by
 induction h with
 |v x=>exact .v x
 |sl a c val hcap hle ha hlt hb hlen hcell hrel ih=>exact .sl a c val hcap hle ha (Nat.lt_of_lt_of_le hlt hs) hb hlen (fun i hi k hk=>(hc _).trans (hcell i hi k hk)) ih
 |zero p c hcap hp=>exact .zero p c hcap hp
theorem R.congr{w w':World}{j:Js}(hc: ∀a,w'.cell? a=w.cell? a)(hs:w.heap.size<=w'.heap.size)(hsh: ∀b,w'.shape? b=w.shape? b)(hm: ∀(b:Nat) es cl,w.heap[b]? =some (.map es cl)->w'.heap[b]? =some (.map es cl)){av:AV}{v:Value}(h:R w j av v):R w' j av v:=by
 induction h with
 |undef v=>exact .undef v
 |iff h h0 ih=>exact .iff ih h0
 |d h=>exact .d (h.congr hc hs)
 |agg vs hsz h ih=>exact .agg vs hsz ih
 |eX vs hsz h ih=>exact .eX vs hsz ih
 |ptr h=>exact .ptr h
 |pe h=>exact .pe h
 |el a val h1 hlt hb hcell hrel=>exact .el a val h1 (Nat.lt_of_lt_of_le hlt hs) hb (fun k hk=>(hc _).trans (hcell k hk)) (fun k hk=>(hrel k hk).congr hc hs)
 |ms c e m h h1 h2 h3=>exact .ms c e m h (by rw[hsh];exact h1) h2 h3
 |op h h0 ih=>exact .op ih h0
 |ms0 p h=>exact .ms0 p h
 |sN p e m h h1 h2 h3=>exact .sN p e m h (by rw[hsh];exact h1) h2 h3
 |mc h q hv ih=>exact .mc ih q hv
 |mp h=>exact .mp h
 |clo ff cc h1 h2 h3 h4 ih3 ih4=>exact .clo ff cc h1 h2 ih3 ih4
 |xX h=>exact .xX h
 |fm c cl es hlt hb xB hd=>exact .fm c cl es (Nat.lt_of_lt_of_le hlt hs) hb (hm _ _ _ xB) ⟨hd.stamped,hd.keys,hd.kind,fun e he k hk=>(hd.rel e he k hk).congr hc hs⟩
theorem RB.congr{w w':World}{j:Js}(hc: ∀a,w'.cell? a=w.cell? a)(hs:w.heap.size<=w'.heap.size)(hsh: ∀b,w'.shape? b=w.shape? b){x:aC}{o:Option Nat}(ho: ∀cb,o=some cb->w'.heap[cb]? =w.heap[cb]?)(hm: ∀(b:Nat) es cl,w.heap[b]? =some (.map es cl)->w'.heap[b]? =some (.map es cl))(h:RB w j x o):RB w' j x o:=by
 cases x with
 |dead=>trivial
 |loc c=>
  obtain⟨h1,h2,h3,m,h4⟩:=h;exact⟨h1,Nat.lt_of_lt_of_le h2 hs,h3,m,(hc _).trans h4⟩
 |tab c vs=>
  obtain⟨h1,h2,h3,e,h4,h5⟩:=h;exact⟨h1,Nat.lt_of_lt_of_le h2 hs,h3,e,(hsh _).trans h4,fun i=>(hc _).trans (h5 i)⟩
 |var cs=>
  cases o with
  |none=>exact h
  |some cb=>
   obtain⟨C,e,h1,h2,h3⟩:=h;exact⟨C,e,by rw[ho cb rfl,h1],h2,fun k hk=>(h3 k hk).congr hc hs hsh hm⟩
 |arr sz n row=>
  cases o with
  |none=>exact h
  |some cb=>
   obtain⟨C,e,h1,h2,h3⟩:=h;exact⟨C,e,h1.at (ho cb rfl),h2,fun i hi=>⟨(h3 i hi).1,fun k hk=>((h3 i hi).2 k hk).congr hc hs⟩⟩
 |lp L st pd=>
  cases o with
  |none=>exact h
  |some cb=>
   obtain⟨r,h1,h2,h3,h4⟩:=h;exact⟨r,by rw[ho cb rfl,h1],h2,h3,fun k av hk=>⟨(h4 k av hk).1,(h4 k av hk).2.congr hc hs hsh hm⟩⟩
 |mp d ks f=>
  cases o with
  |none=>exact h
  |some cb=>
   obtain⟨es,cl,h1,h2⟩:=h;exact⟨es,cl,by rw[ho cb rfl,h1],⟨h2.stamped,h2.keys,h2.kind,h2.free,fun e he k hk=>(h2.rel e he k hk).congr hc hs hsh hm⟩⟩
 |QH d ks f κ q=>
  cases o with
  |none=>exact h
  |some cb=>
   obtain⟨es,cl,h1,h2,hx⟩:=h;exact⟨es,cl,by rw[ho cb rfl,h1],⟨h2.stamped,h2.keys,h2.kind,h2.free,fun e he k hk=>(h2.rel e he k hk).congr hc hs hsh hm⟩,hx⟩
 |it left cur f=>
  cases o with
  |none=>exact h
  |some cb=>
   obtain⟨mb,es,cl,seen,h1,h2⟩:=h;exact⟨mb,es,cl,seen,by rw[ho cb rfl,h1],⟨Nat.lt_of_lt_of_le h2.lt hs,h2.own,by rw[hm _ _ _ h2.heap],h2.stamped,h2.keys,h2.cur,h2.free,fun e he k hk=>(h2.rel e he k hk).congr hc hs hsh hm⟩⟩
def Taken:List Deferred->World->World->Prop
 |[],w,w'=>w'=w
 |d::ds,w,w'=> ∃r,d.target= .collected r/\w.heap[r]? =some (.deferred (some []))/\Taken ds (w.putObj r (.deferred none)) w'
theorem ET{F:Fence}{n:Nat}{P:Program}{fn:Func}{tmps:Array Value}{R:Ending->World->Prop}{w':World}(h: ∃v,(results fn tmps).run P w'= .ok v w'/\R (.returned v) w'): ∀{ds:List Deferred} {w:World},Taken ds w w'->LeavesInM F n P fn tmps R ds .returning w
 |[],w,ht=>by
  simp only[Taken] at ht;subst ht;exact h
 |d::ds,w,ht=>by
  obtain⟨r,h1,h2,h3⟩:=ht;exact⟨by simp,.inl ⟨r,_,h1,run_takeDeferred h2,ET h h3⟩⟩
theorem Td{w:World}{r:Nat}(h:w.heap[r]? =some (.deferred (some [])))(a:Addr):(w.putObj r (.deferred none)).cell? a=w.cell? a:=by
 by_cases hb:a.block=r
 ·have h1:(w.putObj r (.deferred none)).heap[a.block]? =some (.deferred none):=by rw[hb];exact World.putObj_heap_same (Array.getElem?_eq_some_iff.1 h).1
  have h2:w.heap[a.block]? =some (.deferred (some [])):=by rw[hb];exact h
  simp[World.cell?,h1,h2]
 ·simp[World.cell?,World.putObj_heap_other hb]
theorem D8{w:World}{r:Nat}(h:w.heap[r]? =some (.deferred (some [])))(b:Nat):(w.putObj r (.deferred none)).shape? b=w.shape? b:=by
 by_cases hb:b=r
 ·subst hb;simp[World.shape?,World.putObj_heap_same (Array.getElem?_eq_some_iff.1 h).1,h]
 ·simp[World.shape?,World.putObj_heap_other hb]
theorem Yl{w:World}{r:Nat}(h:w.heap[r]? =some (.deferred (some [])))(a:Addr):(w.putObj r (.deferred none)).frozen? a=w.frozen? a:=by
 by_cases hb:a.block=r
 ·have h1:(w.putObj r (.deferred none)).heap[a.block]? =some (.deferred none):=by rw[hb];exact World.putObj_heap_same (Array.getElem?_eq_some_iff.1 h).1
  have h2:w.heap[a.block]? =some (.deferred (some [])):=by rw[hb];exact h
  simp[World.frozen?,h1,h2]
 ·simp[World.frozen?,World.putObj_heap_other hb]
theorem Marks.take{n0:Nat}{σ:List aC} : ∀{ds:List Deferred} {w:World} {j:Js},Marks n0 w j ds->aS w j σ->∃w',Taken ds w w'/\aS w' j σ/\(∀{av v},R w j av v->R w' j av v)/\∀{j1 w1},w1.heap.size=n0->Ev j1 w1 j w->Ev j1 w1 j w'
 |[],w,j,_,hs=>⟨w,rfl,hs,fun h=>h,fun _ h=>h⟩
 |d::ds,w,j,hm,hs=>by
  obtain⟨⟨hn0,hp⟩,hd⟩:=hm;obtain⟨r,h1,h2,h3,h4⟩:=hd d (by simp);have hp':=List.pairwise_cons.1 hp;have hother: ∀b,b≠r->(w.putObj r (.deferred none)).heap[b]? =w.heap[b]? :=fun b hb=>World.putObj_heap_other hb;have hm':Marks n0 (w.putObj r (.deferred none)) j ds:=⟨⟨by simpa using hn0,hp'.2⟩,fun d' hd'=>by
   obtain⟨r',g1,g2,g3,g4⟩:=hd d' (by simp[hd']);have hne:r'≠r:=fun he=>hp'.1 d' hd' (by rw[h1,g1,he]);exact⟨r',g1,g2,g3,by rw[hother r' hne];exact g4⟩⟩
  have hs':aS (w.putObj r (.deferred none)) j σ:=⟨hs.len,fun b cb hb=>by have:=hs.lt b cb hb;simpa using this,hs.inj,fun b x hx=>by
   obtain⟨o,ho,hB⟩:=hs.blk b x hx;refine⟨o,ho,hB.congr (Td h4) (by simp) (D8 h4) (fun cb hcb=>hother cb ?_) fun mb es cl hmb=>by rw[hother mb (fun he=>by subst he;rw[hmb] at h4;cases h4)];exact hmb⟩;intro he;subst hcb;exact h3 (by rw[←he];exact List.mem_of_getElem? ho)⟩
  obtain⟨w',ht,hs2,hr2,he2⟩:=Marks.take hm' hs';refine⟨w',⟨r,by rw[h1],h4,ht⟩,hs2,fun h=>hr2 (h.congr (Td h4) (by simp) (D8 h4) fun mb es cl hmb=>by rw[hother mb (fun he=>by subst he;rw[hmb] at h4;cases h4)];exact hmb),fun {j1 w1} hn he=>he2 hn ⟨?_,?_,he.sub,?_,?_,he.os,he.tape,he.output,?_⟩⟩
  ·simpa using he.size
  ·intro b hb hnj;rw[hother b (by omega)];exact he.keep b hb hnj
  ·intro b hb;rw[D8 h4];exact he.Xa b hb
  ·intro a ha;rw[Yl h4];exact he.uN a ha
  ·intro b r' hb;have hlt:b<w1.heap.size:=(Array.getElem?_eq_some_iff.1 hb).1;rw[hother b (by omega)];exact he.lps b r' hb
theorem PE{P:Program}{f:FuncId}{fn:Func}{c:Code}{args:List AV}{σ:List aC}{Q:Exit->St->Prop}{R':Ending->World->Prop}(hf:P.funcs[f]? =some fn)(hb:fn.body=some c)(hN:args.length<=fn.ntmps)
  (h:dY P c Q (St.init fn.ntmps args σ)) {j:Js} {w:World} {vs:Array Value} (hs:aS w j σ) (hr:Rs w j args vs)
  (hQ: ∀e s',Q e s'->(e= .normal\/e= .ret)/\∀j' a w',Rel ⟨j,w.heap.size,none⟩ s' j' a w'->Ev j w j' w'->∃v,(results fn a.tmps).run P w'= .ok v w'/\R' (.returned v) w'):Calls P f vs w R':=by
 refine(callsIn_wide (n:=0)).1 (callsIn_of_wp_marks (F:=Fence.wide) hf hb trivial (wpIn_mono (h ⟨j,w.heap.size,none⟩ j _ w (Rs.rel (P:=P) hs hr fn.ntmps hN)) ?_));rintro e a w' ⟨s',j',hrel,hev,hq⟩;obtain⟨he,hq⟩:=hQ e s' hq;obtain⟨w2,ht,hs2,hr2,he2⟩:=hrel.defers.take hrel.cZ;have hev2:=he2 rfl hev;have hrel2:Rel ⟨j,w.heap.size,none⟩ s' j' { a with defers:=[] } w2:=⟨.nil hev2.size _,(fun l h=>by cases h),hrel.size,fun k av hk=>⟨(hrel.tmp k av hk).1,hr2 (hrel.tmp k av hk).2⟩,hs2,hrel.len0,hrel.ag⟩;have:=ET (F:=Fence.wide) (n:=0) (hq j' _ w2 hrel2 hev2) ht;rcases he with rfl|rfl
 ·exact this
 ·exact this
theorem CS.Lr{P:Program}{f:FuncId}{fn:Func}{c:Code}{args:List AV}{σ:List aC}{Q:AV->List aC->List Nat->Prop}(hen:dO P f=true)(hf:P.funcs[f]? =some fn)(hb:fn.body=some c)(hN:args.length<=fn.ntmps)
  (h:dY P c (BN P fn Q) (St.init fn.ntmps args σ)):CS P f args σ Q:=by
 refine⟨hen,fun j w vs hs hr=>PE hf hb hN h hs hr fun e s' hq=> ?_⟩;have fin:(x8 P s' fn.results.toList fun xs=>Q (Ko xs) s'.σ s'.mv)->∀j' a w',Rel ⟨j,w.heap.size,none⟩ s' j' a w'->Ev j w j' w'->∃v,(results fn a.tmps).run P w'= .ok v w'/\∃v' r σ' j' X,Ending.returned v= .returned v'/\aS w' j' σ'/\R w' j' r v'/\Ev j w j' w'/\j.length<=j'.length/\Ag j j' X/\Q r σ' X:=by
  intro hq j' a w' hrel hev;obtain⟨v,x,h1,h2,h3⟩:=uo hrel (K:=fun x=>Q x s'.σ s'.mv) hq;exact⟨v,h1,v,x,s'.σ,j',s'.mv,rfl,hrel.cZ,h2,hev,hrel.len0,hrel.ag,h3⟩
 cases e with
 |normal=>exact⟨.inl rfl,fin hq⟩
 |ret=>exact⟨.inr rfl,fin hq⟩
 |exit id=>exact hq.elim
 |goto l=>exact hq.elim
 |panic c=>exact hq.elim
 |outgrown=>exact hq.elim
theorem nG{us:Array Value}{i:Nat}(h:i<us.size):us[i]? =some us[i]/\us.getD i Go.undef=us[i]:=by
 simp[Array.getD_eq_getD_getElem?,h]
section
variable {P : Program}
theorem wY{w:World}{j:Js}{t:TypeId}{agg:Bool}{m off:Nat}(ht:gQ P t=some (agg,m))(hm:agg=false->m=1){cs:List AV}{us:Array Value}(hs:us.size=cs.length)
  (h: ∀k,k<cs.length->R w j (cs.getD k .undef) (us.getD k Go.undef)) (hlt:off+m<=cs.length): ∃v,(part t us off).run P w= .ok v w/\R w j (loaded agg ((cs.drop off).take m)) v:=by
 cases agg with
 |true=>
  refine⟨.agg (us.extract off (off+m)),by simp[part,BG ht,wG ht],.agg _ (by simp;omega) fun k hk=> ?_⟩;simp only[List.length_take,List.length_drop] at hk;have:=h (off+k) (by omega);have e1:((cs.drop off).take m).getD k AV.undef=cs.getD (off+k) AV.undef:=by
   simp[List.getD_eq_getElem?_getD,show k<m by omega]
  have e2:(us.extract off (off+m)).getD k Go.undef=us.getD (off+k) Go.undef:=by
   simp[Array.getD_eq_getD_getElem?,show k<min (off+m) us.size-off by omega,show off+k<us.size by omega]
  rw[e1,e2];exact this
 |false=>
  have h1:=hm rfl;subst h1;have:=h off (by omega);obtain⟨h4,h5⟩:=nG (us:=us) (i:=off) (by omega);rw[h5] at this;refine⟨us[off],by simp[part,BG ht,h4],?_⟩;have e1:loaded false ((cs.drop off).take 1)=cs.getD off .undef:=by
   have hlt:off<cs.length:=by omega
   have h1:(cs.drop off).take 1=[cs[off]]:=by rw[List.drop_eq_getElem_cons hlt];rfl
   rw[loaded,if_neg (by simp),h1];simp[List.getD_eq_getElem?_getD,hlt]
  rw[e1];exact this
inductive EqK where
 |i
 |b
 |s
def eqFs(P:Program)(rec:TypeId->Option (List EqK)):List Field->Nat->Option (List EqK)
 |[],_=>some []
 | f :: fs, o => if f.name = "_" || !Nat.beq f.offset o then none else match rec f.type, gQ P f.type with
  |some ks,some (_,m)=>if Nat.beq ks.length m then(eqFs P rec fs (o+m)).map (ks++ ·) else none
  |_,_=>none
def eqT(P:Program):Nat->TypeId->Option (List EqK)
 |0,_=>none
 |d+1,t=>match P.underlying t,gQ P t with
  |some (.int _),some (false,1)=>some [.i]
  |some .bool,some (false,1)=>some [.b]
  |some .string,some (false,1)=>some [.s]
  |some (.struct fs),some (true,m)=>if P.stoodInHeld t then none else match eqFs P (eqT P d) fs.toList 0 with
   |some ks=>if Nat.beq ks.length m then some ks else none
   |none=>none
  |_,_=>none
def eq1(k:EqK)(x y:AV):Option Bool:=
 match k,x,y with
 | .i,.d (.v (.int k a)),.d (.v (.int k' b))=>if k=k' then some (a==b) else none
 | .b,.d (.v (.bool a)),.d (.v (.bool b))=>some (a==b)
 | .s,.d (.v (.string a)),.d (.v (.string b))=>some (a.toList==b.toList)
 |_,_,_=>none
def LJ:List EqK->List AV->List AV->Option Bool
 |[],[],[]=>some true
 |k::ks,x::xs,y::ys=>match eq1 k x y,LJ ks xs ys with
  |some a,some b=>some (a&&b)
  |_,_=>none
 |_,_,_=>none
theorem O8: ∀{ks ks':List EqK} {xs ys:List AV} {r:Bool},LJ (ks++ks') xs ys=some r->
  ∃a b,LJ ks (xs.take ks.length) (ys.take ks.length)=some a/\LJ ks' (xs.drop ks.length) (ys.drop ks.length)=some b/\r=(a&&b)/\ks.length<=xs.length/\ks.length<=ys.length
 |[],ks',xs,ys,r,h=>⟨true,r,by simp[LJ],by simpa using h,by simp,by simp,by simp⟩
 |k::ks,ks',[],ys,r,h=>by simp[LJ] at h
 |k::ks,ks',x::xs,[],r,h=>by simp[LJ] at h
 |k::ks,ks',x::xs,y::ys,r,h=>by
  simp only[List.cons_append,LJ] at h;split at h
  ·rename_i a b h1 h2;obtain⟨a',b',h3,h4,h5,h6,h7⟩:=O8 h2;refine⟨a&&a',b',by simp[LJ,h1,h3],by simpa using h4,?_,by simpa using h6,by simpa using h7⟩;simp only[Option.some.injEq] at h;rw[←h,h5,Bool.and_assoc]
  ·cases h
theorem EG: ∀{ks:List EqK} {xs ys:List AV} {r:Bool},LJ ks xs ys=some r->xs.length=ks.length/\ys.length=ks.length
 |[],[],[],_,_=>⟨rfl,rfl⟩
 |[],_::_,_,_,h=>by simp[LJ] at h
 |[],[],_::_,_,h=>by simp[LJ] at h
 |k::ks,[],_,_,h=>by simp[LJ] at h
 |k::ks,_::_,[],_,h=>by simp[LJ] at h
 |k::ks,x::xs,y::ys,r,h=>by
  simp only[LJ] at h;split at h
  ·rename_i a b h1 h2;have:=EG h2;simp[this.1,this.2]
  ·cases h
theorem eqT_len{d:Nat}{t:TypeId}{ks:List EqK}(h:eqT P d t=some ks): ∃agg,gQ P t=some (agg,ks.length)/\(agg=false->ks.length=1):=by
 cases d with
 |zero=>simp[eqT] at h
 |succ d=>
  unfold eqT at h;split at h
  ·rename_i h2;cases h;exact⟨false,h2,fun _=>rfl⟩
  ·rename_i h2;cases h;exact⟨false,h2,fun _=>rfl⟩
  ·rename_i h2;cases h;exact⟨false,h2,fun _=>rfl⟩
  ·rename_i fs m h1 h2;split at h
   ·cases h
   ·split at h
    ·rename_i ks' h3;split at h
     ·rename_i h4;cases h
      have:ks.length=m:=by simpa using h4
      exact⟨true,by rw[this];exact h2,fun h=>by cases h⟩
     ·cases h
    ·cases h
  ·cases h
theorem TM{w:World}{j:Js}{x:Value}{v:Value}(h:R w j (.d (.v x)) v):v=x:=by
 cases h with|d h=>cases h;rfl
theorem eq1_i{k:EqK}{x y:AV}{r:Bool}(h:eq1 k x y=some r):
  (k= .i/\∃kk a b,x= .d (.v (.int kk a))/\y= .d (.v (.int kk b))/\r=(a==b))\/(k= .b/\∃a b,x= .d (.v (.bool a))/\y= .d (.v (.bool b))/\r=(a==b))\/(k= .s/\∃a b,x= .d (.v (.string a))/\y= .d (.v (.string b))/\r=(a.toList==b.toList)):=by
 unfold eq1 at h;split at h
 ·split at h
  ·rename_i hk;cases h;subst hk;exact .inl ⟨rfl,_,_,_,rfl,rfl,rfl⟩
  ·cases h
 ·cases h;exact .inr (.inl ⟨rfl,_,_,rfl,rfl,rfl⟩)
 ·cases h;exact .inr (.inr ⟨rfl,_,_,rfl,rfl,rfl⟩)
 ·cases h
theorem Vj{k:EqK}{xs ys:List AV}{r:Bool}(h:LJ [k] xs ys=some r): ∃x y,xs=[x]/\ys=[y]/\eq1 k x y=some r:=by
 match xs,ys with
 |[],_=>simp[LJ] at h
 |x::xs,[]=>simp[LJ] at h
 |x::xs,y::ys=>
  have hl:=EG h;simp at hl;obtain⟨rfl,rfl⟩:=hl;refine⟨x,y,rfl,rfl,?_⟩;simp only[LJ] at h;split at h
  ·rename_i a b h1 h2;simp only[Option.some.injEq] at h2 h;subst h2;rw[h1,←h];simp
  ·cases h
theorem SQ{w:World}{j:Js} : ∀(d:Nat) {t:TypeId} {ks:List EqK},eqT P d t=some ks->∀{agg:Bool},gQ P t=some (agg,ks.length)->∀{xs ys:List AV} {u v:Value} {r:Bool},LJ ks xs ys=some r->R w j (loaded agg xs) u->R w j (loaded agg ys) v->
  ∀n,d<=n->(Op.equalIn n t u v).run P w= .ok r w
 |0,t,ks,h,agg,ht,xs,ys,u,v,r,hr,hu,hv,n,hn=>by simp[eqT] at h
 |d+1,t,ks,h,agg,ht,xs,ys,u,v,r,hr,hu,hv,n,hn=>by
  obtain⟨n,rfl⟩: ∃n',n=n'+1:=⟨n-1,by omega⟩;unfold eqT at h;split at h
  ·rename_i hun h2;cases h
   rw[h2] at ht;cases ht;obtain⟨x,y,rfl,rfl,h1⟩:=Vj hr;rcases eq1_i h1 with⟨_,kk,a,b,rfl,rfl,rfl⟩|⟨h,_⟩|⟨h,_⟩
   ·obtain rfl:=TM (show R w j (.d (.v (.int kk a))) u from hu);obtain rfl:=TM (show R w j (.d (.v (.int kk b))) v from hv);exact run_equalIn_int w n t kk _ a b hun
   ·cases h
   ·cases h
  ·rename_i hun h2;cases h
   rw[h2] at ht;cases ht;obtain⟨x,y,rfl,rfl,h1⟩:=Vj hr;rcases eq1_i h1 with⟨h,_⟩|⟨_,a,b,rfl,rfl,rfl⟩|⟨h,_⟩
   ·cases h
   ·obtain rfl:=TM (show R w j (.d (.v (.bool a))) u from hu);obtain rfl:=TM (show R w j (.d (.v (.bool b))) v from hv);exact run_equalIn_bool' w n t a b hun
   ·cases h
  ·rename_i hun h2;cases h
   rw[h2] at ht;cases ht;obtain⟨x,y,rfl,rfl,h1⟩:=Vj hr;rcases eq1_i h1 with⟨h,_⟩|⟨h,_⟩|⟨_,a,b,rfl,rfl,rfl⟩
   ·cases h
   ·cases h
   ·obtain rfl:=TM (show R w j (.d (.v (.string a))) u from hu);obtain rfl:=TM (show R w j (.d (.v (.string b))) v from hv);exact run_equalIn_string w n t a b hun
  ·rename_i fs m hun h2;rw[h2] at ht;cases ht;split at h
   ·cases h
   ·rename_i hst;split at h
    ·rename_i ks' hfs;split at h
     ·cases h
      cases hu with
      |agg us hus hur=>
      cases hv with
      |agg vs hvs hvr=>
      have hfo:P.fieldsOf t=fs:=by simp[Program.fieldsOf,hun]
      rw[run_equalIn_struct w n t us vs (by rw[hfo];exact hun) (by simpa using hst),hfo];have gen: ∀(fl:List Field) (o:Nat) (ks:List EqK) (r:Bool),eqFs P (eqT P d) fl o=some ks->o<=xs.length->o<=ys.length->LJ ks (xs.drop o) (ys.drop o)=some r->(Op.eqFields n us vs fl).run P w= .ok r w:=by
       intro fl;induction fl with
       |nil=>
        intro o ks r h1 ho1 ho2 h2;simp only[eqFs,Option.some.injEq] at h1;subst h1;have hl:=EG h2;have e1:xs.drop o=[]:=List.length_eq_zero_iff.1 hl.1;have e2:ys.drop o=[]:=List.length_eq_zero_iff.1 hl.2;rw[e1,e2] at h2;simp only[LJ,Option.some.injEq] at h2;subst h2;simp[Op.eqFields]
       |cons f fl ih=>
        intro o ks r h1 ho1 ho2 h2;simp only[eqFs] at h1;split at h1
        ·cases h1
        ·rename_i hnm;simp only[Bool.or_eq_true,decide_eq_true_eq,Bool.not_eq_true',not_or,Bool.not_eq_false] at hnm;have hoff:f.offset=o:=by simpa using hnm.2
         split at h1
         ·rename_i kf agf mf e1 e2;split at h1
          ·rename_i e3;have e3:kf.length=mf:=by simpa using e3
           simp only[Option.map_eq_some_iff] at h1;obtain⟨kr,e4,rfl⟩:=h1;obtain⟨a,b,g1,g2,g3,g4,g5⟩:=O8 h2;obtain⟨agg',e5,e6⟩:=eqT_len e1;rw[e2] at e5;cases e5;simp only[List.length_drop] at g4 g5;obtain⟨pu,hpu,hru⟩:=wY (P:=P) (w:=w) (j:=j) (off:=f.offset) e2 (by rw[←e3];exact e6) hus hur (by omega);obtain⟨pv,hpv,hrv⟩:=wY (P:=P) (w:=w) (j:=j) (off:=f.offset) e2 (by rw[←e3];exact e6) hvs hvr (by omega);rw[hoff] at hpu hpv hru hrv;rw[e3] at g1;have hq:=SQ d e1 (by rw[e3];exact e2) g1 hru hrv n (by omega);simp only[Op.eqFields,ne_eq,hnm.1,not_false_eq_true,if_true,Sem.run_bind,hoff,hpu,hpv,hq,Result.andThen_ok];cases a with
           |false=>simp only[Bool.not_false,if_true,Sem.run_pure];rw[g3];rfl
           |true=>
            simp only[Bool.not_true,Bool.false_eq_true,if_false];rw[g3,Bool.true_and];refine ih (o+kf.length) kr b e4 (by omega) (by omega) ?_;rw[List.drop_drop,List.drop_drop] at g2;exact g2
          ·cases h1
         ·cases h1
      exact gen fs.toList 0 ks r hfs (by simp) (by simp) (by simpa using hr)
     ·cases h
    ·cases h
  ·cases h
def ZE(P:Program)(t:TypeId):Option (List EqK):=if P.eqGuardType P.depth t then none else match gQ P t with
 |some (true,_)=>eqT P 30 t
 |_=>none
theorem eqA_spec{t:TypeId}{ks:List EqK}(h:ZE P t=some ks):P.eqGuardType P.depth t=false/\eqT P 30 t=some ks/\gQ P t=some (true,ks.length):=by
 unfold ZE at h;split at h
 ·cases h
 ·rename_i h1;split at h
  ·rename_i m h2;obtain⟨agg,h3,_⟩:=eqT_len h;rw[h2] at h3;simp only[Option.some.injEq,Prod.mk.injEq] at h3;exact⟨by cases hb:P.eqGuardType P.depth t<;>simp_all,h,by rw[h2,h3.2]⟩
  ·cases h
end
theorem kD{w:World}{j:Js}{x v:Value}(h:R w j (.d (.v x)) v):v=x:=by
 cases h with|d h=>cases h;rfl
def Arg(g:Bool)(s:St)(x:Operand)(av:AV):Prop:=g=true->∀j0 j a w,Rel j0 s j a w->R w j av (a.eval x)
def arg(g:Bool)(s:St)(x:Operand)(K:AV->Prop):Prop:=
 match val s x with
 |some (.iff b y)=>(g=true->b=true)/\K y
 |some y=>K y
 |none=>False
theorem aB{g:Bool}{s:St}{x:Operand}{K:AV->Prop}(h:arg g s x K): ∃av,K av/\Arg g s x av:=by
 unfold arg at h;split at h
 ·rename_i b y hv;refine⟨y,h.2,fun hg j0 j a w hr=> ?_⟩;have:=ER hr hv;generalize a.eval x=u at this
  cases this with|iff hh _=>exact hh (h.1 hg)
 ·rename_i y hv;exact⟨_,h,fun hg j0 j a w hr=>ER hr hv⟩
 ·exact h.elim
def args(g:Bool)(s:St):List Operand->(List AV->Prop)->Prop
 |[],K=>K []
 |x::xs,K=>arg g s x fun a=>args g s xs fun CJ=>K (a::CJ)
theorem ku{g:Bool}{s:St} : ∀{xs:List Operand} {K:List AV->Prop},args g s xs K->∃avs,K avs/\avs.length=xs.length/\∀k,k<xs.length->Arg g s (xs.getD k (.const Go.undef)) (avs.getD k .undef)
 |[],K,h=>⟨[],h,rfl,by simp⟩
 |x::xs,K,h=>by
  obtain⟨av,h1,h2⟩:=aB h;obtain⟨avs,h3,h4,h5⟩:=ku h1;refine⟨av::avs,h3,by simp[h4],fun k hk=> ?_⟩;cases k with
  |zero=>simpa using h2
  |succ k=>simpa using h5 k (by simpa using hk)
def Bz(P:Program)(g:Bool)(s:St)(op:Op)(av:AV):Prop:=
 g=true->∀j0 j a w (o:Oper),o.op=op->Rel j0 s j a w->∃v,(execOp a.eval o).run P w= .ok (.value v) w/\R w j av v
def shlI(k:IntKind)(x y:Int):Int:=k.wrap (x*2^(min y.toNat k.bits))
def Z7(k:IntKind)(x y:Int):Int:=x.fdiv (2^(min y.toNat k.bits))
def andI(k:IntKind)(a b:Int):Int:=k.wrap (BitVec.ofInt k.bits a&&&BitVec.ofInt k.bits b).toNat
def orI(k:IntKind)(a b:Int):Int:=k.wrap (BitVec.ofInt k.bits a|||BitVec.ofInt k.bits b).toNat
def pJ(k:IntKind)(a b:Int):Int:=k.wrap (BitVec.ofInt k.bits a^^^BitVec.ofInt k.bits b).toNat
def andNotI(k:IntKind)(a b:Int):Int:=k.wrap (BitVec.ofInt k.bits a&&& ~~~ BitVec.ofInt k.bits b).toNat
def comI(k:IntKind)(n:Int):Int:=pJ k (if k.signed then-1 else k.max) n
def intBin(g:Bool)(op:BinOp)(k:IntKind)(a b:Int)(K:AV->Prop):Prop:=
 match op with
 | .add=>K (.d (.v (.int k (k.wrap (a+b)))))
 | .sub=>K (.d (.v (.int k (k.wrap (a-b)))))
 | .mul=>K (.d (.v (.int k (k.wrap (a*b)))))
 | .quo=>(g=true->b≠0)/\K (.d (.v (.int k (k.wrap (a.tdiv b)))))
 | .rem=>(g=true->b≠0)/\K (.d (.v (.int k (a.tmod b))))
 | .eql=>K (.d (.v (.bool (a==b))))
 | .neq=>K (.d (.v (.bool (a !=b))))
 | .lss=>K (.d (.v (.bool (decide (a<b)))))
 | .leq=>K (.d (.v (.bool (decide (a<=b)))))
 | .gtr=>K (.d (.v (.bool (decide (b<a)))))
 | .geq=>K (.d (.v (.bool (decide (b<=a)))))
 | .and=>K (.d (.v (.int k (andI k a b))))
 | .or=>K (.d (.v (.int k (orI k a b))))
 | .xor=>K (.d (.v (.int k (pJ k a b))))
 | .andNot=>K (.d (.v (.int k (andNotI k a b))))
 |_=>False
def ZX(g:Bool)(op:BinOp)(x y:ByteArray)(K:AV->Prop):Prop:=
 match op with
 | .add=>(g=true->((x.size+y.size:Nat):Int)<=9223372036854775807)/\K (.d (.v (.string (x++y))))
 | .eql=>K (.d (.v (.bool (x.toList==y.toList))))
 | .neq=>K (.d (.v (.bool !(x.toList==y.toList))))
 | .lss=>K (.d (.v (.bool (Op.bytesLess x.toList y.toList))))
 | .leq=>K (.d (.v (.bool (Op.bytesLess x.toList y.toList||x.toList==y.toList))))
 | .gtr=>K (.d (.v (.bool !(Op.bytesLess x.toList y.toList||x.toList==y.toList))))
 | .geq=>K (.d (.v (.bool !Op.bytesLess x.toList y.toList)))
 |_=>False
def MQ(g:Bool)(op:BinOp)(k:IntKind)(x y:Int)(K:AV->Prop):Prop:=
 match op with
 | .shl=>(g=true->0<=y)/\K (.d (.v (.int k (shlI k x y))))
 | .shr=>(g=true->0<=y)/\K (.d (.v (.int k (Z7 k x y))))
 |_=>False
def isShift:BinOp->Bool
 | .shl=>true
 | .shr=>true
 |_=>false
def boolT(P:Program)(t:TypeId):Bool:=match P.underlying t with|some .bool=>true|_=>false
def UA:AV->Option Bool
 | .op b _=>some (!b)
 | .el _=>some false
 | .ptr _ _=>some false
 | .pe _ _ _ _=>some false
 | .d (.v (.pointer none))=>some true
 |_=>none
def ptrT(P:Program)(t:TypeId):Bool:=match P.underlying t with|some (.pointer _)=>true|_=>false
theorem Xp{w:World}{j:Js}{x:AV}{v:Value}{r:Bool}(h:UA x=some r)(hr:R w j x v): ∃p,v= .pointer p/\p.isNone=r:=by
 unfold UA at h;split at h<;>simp only[Option.some.injEq,reduceCtorEq] at h<;>subst h
 ·rename_i b cs;cases hr with
  |op hh h0=>
   cases b with
   |true=>cases hh rfl with|el a=>exact⟨_,rfl,rfl⟩
   |false=>exact⟨_,h0 rfl,rfl⟩
 ·cases hr with|el a=>exact⟨_,rfl,rfl⟩
 ·cases hr with|ptr h=>exact⟨_,rfl,rfl⟩
 ·cases hr with|pe h=>exact⟨_,rfl,rfl⟩
 ·exact⟨none,kD hr,rfl⟩
def bin(P:Program)(g:Bool)(op:BinOp)(t:TypeId)(x y:AV)(K:AV->Prop):Prop:=
 match x,y with
 | .d (.v (.int k a)),.d (.v (.int k' b))=>if isShift op then MQ g op k a b K else k=k'/\intBin g op k a b K
 | .d (.v (.bool a)),.d (.v (.bool b))=>boolT P t=true/\(match op with
  | .eql=>K (.d (.v (.bool (a==b))))
  | .neq=>K (.d (.v (.bool !(a==b))))
  |_=>False)
 | .d (.v (.string a)),.d (.v (.string b))=>ZX g op a b K
 | .agg xs,.agg ys=>(match ZE P t with
  |some ks=>(match LJ ks xs ys with
   |some r=>(match op with
    | .eql=>K (.d (.v (.bool r)))
    | .neq=>K (.d (.v (.bool !r)))
    |_=>False)
   |none=>False)
  |none=>False)
 |x,.d (.v (.pointer none))=>ptrT P t=true/\(match UA x with
  |some r=>(match op with
   | .eql=>K (.d (.v (.bool r)))
   | .neq=>K (.d (.v (.bool !r)))
   |_=>False)
  |none=>False)
 |_,_=>False
theorem lZ{P:Program}{w:World}{op:BinOp}{t:TypeId}{x y:Operand}{a b:Value}(ha: ∀cs,a≠.agg cs)(hn:a≠.nilIface):(eqGuard op t x y a b).run P w= .ok () w:=by
 unfold eqGuard;cases a<;>first|exact absurd rfl hn|exact absurd rfl (ha _)|(split<;>rfl)
theorem run_equal_bool{P:Program}{w:World}{t:TypeId}(hu:P.underlying t=some .bool)(a b:Bool):(Op.equal t (.bool a) (.bool b)).run P w= .ok (a==b) w:=by
 show(Op.equalIn (9999+1) t _ _).run P w=_
 rw[Op.equalIn];simp[underlying,hu]
theorem bin_sound{P:Program}{g:Bool}{op:BinOp}{t ty:TypeId}{a b:AV}{K:AV->Prop}(h:bin P g op t a b K){s:St}{x y:Operand}(hx:Arg g s x a)(hy:Arg g s y b):
  ∃av,K av/\Bz P g s (.binOp op t x y ty) av:=by
 unfold bin at h;split at h
 ·
  rename_i k m k' n;have base: ∀(r:Value),(g=true->∀w,(binOp op t (.int k m) (.int k' n)).run P w= .ok r w)->Bz P g s (.binOp op t x y ty) (.d (.v r)):=by
   intro r hr hg j0 j a w o ho hrel;have h1:=kD (hx hg j0 j a w hrel);have h2:=kD (hy hg j0 j a w hrel);refine⟨r,?_,.d (.v r)⟩;simp only[execOp,ho,h1,h2];simp[lZ,hr hg]
  split at h
  ·rename_i hsh;unfold MQ at h;split at h
   ·refine⟨_,h.2,base _ fun hg w=> ?_⟩;have:=h.1 hg;simp[binOp,Op.shift,show ¬n<0 by omega,shlI]
   ·refine⟨_,h.2,base _ fun hg w=> ?_⟩;have:=h.1 hg;simp[binOp,Op.shift,show ¬n<0 by omega,Z7]
   ·exact h.elim
  ·rename_i hsh;obtain⟨rfl,h⟩:=h;unfold intBin at h;split at h<;>first
    |exact h.elim
    |exact⟨_,h,base _ fun hg w=>by simp[binOp,Op.intArith,Op.intCmp,Op.intBits,andI,orI,pJ,andNotI]⟩
    |exact⟨_,h.2,base _ fun hg w=>by have:=h.1 hg;simp[binOp,Op.intDiv,this]⟩
 ·rename_i m n;obtain⟨hb,h⟩:=h;have hu:P.underlying t=some .bool:=by
   unfold boolT at hb;split at hb<;>simp_all
  have base: ∀(r:Value),(g=true->∀w,(binOp op t (.bool m) (.bool n)).run P w= .ok r w)->Bz P g s (.binOp op t x y ty) (.d (.v r)):=by
   intro r hr hg j0 j a w o ho hrel;have h1:=kD (hx hg j0 j a w hrel);have h2:=kD (hy hg j0 j a w hrel);refine⟨r,?_,.d (.v r)⟩;simp only[execOp,ho,h1,h2];simp[lZ,hr hg]
  split at h
  ·exact⟨_,h,base _ fun hg w=>by
    show(do pure (Value.bool (←Op.equal t (.bool m) (.bool n))):Sem Value).run P w=_
    simp[run_equal_bool hu]⟩
  ·exact⟨_,h,base _ fun hg w=>by
    show(do pure (Value.bool (!(←Op.equal t (.bool m) (.bool n)))):Sem Value).run P w=_
    simp[run_equal_bool hu]⟩
  ·exact h.elim
 ·rename_i m n;have base: ∀(r:Value),(g=true->∀w,(binOp op t (.string m) (.string n)).run P w= .ok r w)->Bz P g s (.binOp op t x y ty) (.d (.v r)):=by
   intro r hr hg j0 j a w o ho hrel;have h1:=kD (hx hg j0 j a w hrel);have h2:=kD (hy hg j0 j a w hrel);refine⟨r,?_,.d (.v r)⟩;simp only[execOp,ho,h1,h2];simp[lZ,hr hg]
  unfold ZX at h;split at h<;>first
   |exact h.elim
   |exact⟨_,h,base _ fun hg w=>by simp[binOp,Op.stringOp]⟩
   |exact⟨_,h.2,base _ fun hg w=>by
     have:=h.1 hg;simp only[binOp,Op.stringOp];rw[if_neg (by simp only[IntKind.max,IntKind.signed,IntKind.bits];omega)];rfl⟩
 ·rename_i xs ys;split at h
  ·rename_i ks hks;split at h
   ·rename_i r hr;have hks':=eqA_spec hks;have base: ∀(r':Bool) (hop: ∀(us vs:Array Value) (w:World),(Op.equalIn 10000 t (.agg us) (.agg vs)).run P w= .ok r w->(binOp op t (.agg us) (.agg vs)).run P w= .ok (.bool r') w),Bz P g s (.binOp op t x y ty) (.d (.v (.bool r'))):=by
     intro r' hop hg j0 j a w o ho hrel;have h1:=hx hg j0 j a w hrel;have h2:=hy hg j0 j a w hrel;generalize hu:a.eval x=u at h1
     generalize hv:a.eval y=v at h2
     cases h1 with
     |agg us hus hur=>
     cases h2 with
     |agg vs hvs hvr=>
     have hq:=SQ 30 hks'.2.1 hks'.2.2 hr (u:= .agg us) (v:= .agg vs) (.agg us hus hur) (.agg vs hvs hvr) 10000 (by omega);refine⟨_,?_,.d (.v _)⟩;simp only[execOp,ho,hu,hv];simp[run_eqGuard_agg w op t x y us vs hks'.1,hop us vs w hq]
    split at h
    ·exact⟨_,h,base r fun us vs w hq=>by rw[run_eql_struct,hq];rfl⟩
    ·exact⟨_,h,base (!r) fun us vs w hq=>by rw[run_neq_struct,hq];rfl⟩
    ·exact h.elim
   ·exact h.elim
  ·exact h.elim
 ·obtain⟨hp,h⟩:=h;have hu: ∃e,P.underlying t=some (.pointer e):=by
   unfold ptrT at hp;split at hp
   ·exact⟨_,by assumption⟩
   ·simp at hp
  obtain⟨e,hu⟩:=hu;have YI: ∀(w:World) (p:Option Addr),(Op.equal t (.pointer p) (.pointer none)).run P w= .ok p.isNone w:=by
   intro w p;show(Op.equalIn (9999+1) t _ _).run P w=_
   rw[Op.equalIn];cases p<;>simp[underlying,hu]
  split at h
  ·rename_i r hn;have base: ∀(r':Bool) (hop: ∀(p:Option Addr) (w:World),p.isNone=r->(binOp op t (.pointer p) (.pointer none)).run P w= .ok (.bool r') w),Bz P g s (.binOp op t x y ty) (.d (.v (.bool r'))):=by
    intro r' hop hg j0 j a w o ho hrel;have h2:=kD (hy hg j0 j a w hrel);obtain⟨p,h1,h3⟩:=Xp hn (hx hg j0 j a w hrel);refine⟨_,?_,.d (.v _)⟩;simp only[execOp,ho,h1,h2];simp[lZ,hop p w h3]
   split at h
   ·exact⟨_,h,base r fun p w hpn=>by
     show(do pure (Value.bool (←Op.equal t (.pointer p) (.pointer none))):Sem Value).run P w=_
     simp[YI,hpn]⟩
   ·exact⟨_,h,base (!r) fun p w hpn=>by
     show(do pure (Value.bool (!(←Op.equal t (.pointer p) (.pointer none)))):Sem Value).run P w=_
     simp[YI,hpn]⟩
   ·exact h.elim
  ·exact h.elim
 ·exact h.elim
def un(op:UnOp)(x:AV)(K:AV->Prop):Prop:=
 match op,x with
 | .not,.d (.v (.bool b))=>K (.d (.v (.bool !b)))
 | .neg,.d (.v (.int k n))=>K (.d (.v (.int k (k.wrap (0-n)))))
 | .xor,.d (.v (.int k n))=>K (.d (.v (.int k (comI k n))))
 |_,_=>False
theorem un_sound{P:Program}{g:Bool}{op:UnOp}{t:TypeId}{a:AV}{K:AV->Prop}(h:un op a K){s:St}{x:Operand}(hx:Arg g s x a):
  ∃av,K av/\Bz P g s (.unOp op t x) av:=by
 unfold un at h;split at h
 ·refine⟨_,h,fun hg j0 j a w o ho hrel=>⟨_,?_,.d (.v _)⟩⟩;have h1:=kD (hx hg j0 j a w hrel);simp[execOp,ho,h1,Op.unary]
 ·refine⟨_,h,fun hg j0 j a w o ho hrel=>⟨_,?_,.d (.v _)⟩⟩;have h1:=kD (hx hg j0 j a w hrel);simp[execOp,ho,h1,Op.unary,Op.intArith]
 ·refine⟨_,h,fun hg j0 j a w o ho hrel=>⟨_,?_,.d (.v _)⟩⟩;have h1:=kD (hx hg j0 j a w hrel);simp[execOp,ho,h1,Op.unary,Op.intBits,comI,pJ]
 ·exact h.elim
def aG(P:Program)(t:TypeId)(f:Nat):Option Nat:=
 match P.underlying t with
 |some (.struct fs)=>match fs[f]? with
  |some fd=>match P.info? fd.type with
   |some i=>if Nat.beq i.size 0 then none else some fd.offset
   |none=>none
  |none=>none
 |_=>none
def xF(o:Nat)(x:AV)(K:AV->Prop):Prop:=
 match x with
 | .ptr b off=>K (.ptr b (off+o))
 | .pe b sz i k=>K (.pe b sz i (k+o))
 | .el cs=>K (.el (cs.drop o))
 | .op b cs=>b=true/\K (.el (cs.drop o))
 |_=>False
theorem Yr{P:Program}{t:TypeId}{f o:Nat}(hf:aG P t f=some o)(a:Addr)(w:World):(Instr.fieldAt t (.pointer (some a)) f).run P w= .ok (.pointer (some (a.add o))) w:=by
 unfold aG at hf;split at hf
 ·rename_i fs hu;split at hf
  ·rename_i fd hfd;split at hf
   ·rename_i i hi;split at hf<;>simp at hf;rename_i hz;subst hf;have hz':i.size≠0:=fun e=>hz (by rw[e];rfl);simp[Instr.fieldAt,underlying,hu,hfd,Instr.sureAddr,fieldPlace,Go.sizeOf,typeInfo,hi,hz']
   ·simp at hf
  ·simp at hf
 ·simp at hf
theorem KU{P:Program}{g:Bool}{t:TypeId}{f o:Nat}(hf:aG P t f=some o){a:AV}{K:AV->Prop}(h:xF o a K){s:St}{x:Operand}(hx:Arg g s x a):
  ∃av,K av/\Bz P g s (.fieldAddr t x f) av:=by
 have base: ∀{av:AV},(∀j w u,R w j a u->∃ad,u= .pointer (some ad)/\R w j av (.pointer (some (ad.add o))))->Bz P g s (.fieldAddr t x f) av:=by
  intro av hh hg j0 j a w op ho hrel;obtain⟨ad,h1,h2⟩:=hh j w _ (hx hg j0 j a w hrel);refine⟨_,?_,h2⟩;simp only[execOp,ho,h1];simp[Yr hf]
 unfold xF at h;split at h
 ·refine⟨_,h,base fun j w u hr=> ?_⟩;cases hr with
  |ptr hb=>exact⟨_,rfl,by rw[dX _ rfl];exact .ptr hb⟩
 ·refine⟨_,h,base fun j w u hr=> ?_⟩;cases hr with
  |pe hb=>exact⟨_,rfl,by rw[dX _ rfl];simp only[Nat.add_assoc];exact .pe hb⟩
 ·rename_i cs;refine⟨_,h,base fun j w u hr=> ?_⟩;cases hr with
  |el ad val ha hlt hb hcell hrel=>
   refine⟨_,rfl,?_⟩;rw[dX _ ha];refine .el _ (fun k=>val (o+k)) rfl hlt hb (fun k hk=> ?_) (fun k hk=> ?_)
   ·simp only[List.length_drop] at hk;have:=hcell (o+k) (by omega);rw[←Nat.add_assoc] at this;exact this
   ·simp only[List.length_drop] at hk;have:=hrel (o+k) (by omega);have e1:(cs.drop o).getD k default=cs.getD (o+k) default:=by simp[List.getD_eq_getElem?_getD]
    rw[e1];exact this
 ·rename_i b cs;obtain⟨hb,h⟩:=h;refine⟨_,h,base fun j w u hr=> ?_⟩;cases hr with
  |op hr _=>
  cases hr hb with
  |el ad val ha hlt hb hcell hrel=>
   refine⟨_,rfl,?_⟩;rw[dX _ ha];refine .el _ (fun k=>val (o+k)) rfl hlt hb (fun k hk=> ?_) (fun k hk=> ?_)
   ·simp only[List.length_drop] at hk;have:=hcell (o+k) (by omega);rw[←Nat.add_assoc] at this;exact this
   ·simp only[List.length_drop] at hk;have:=hrel (o+k) (by omega);have e1:(cs.drop o).getD k default=cs.getD (o+k) default:=by simp[List.getD_eq_getElem?_getD]
    rw[e1];exact this
 ·exact h.elim
def loadA(P:Program)(g:Bool)(t:TypeId)(σ:List aC)(x:AV)(K:AV->Prop):Prop:=
 match gQ P t with
 |some (agg,m)=>(agg||Nat.beq m 1)=true/\(match uw σ m x with
  |some (side,l)=>(g=true->side)/\K (loaded agg l)
  |none=>False)
 |none=>False
theorem aav{P:Program}{g:Bool}{t:TypeId}{s:St}{a:AV}{K:AV->Prop}(h:loadA P g t s.σ a K){x:Operand}(hx:Arg g s x a): ∃av,K av/\Bz P g s (.load t x) av:=by
 unfold loadA at h;split at h
 ·rename_i agg m ht;obtain⟨hm,h⟩:=h;split at h
  ·rename_i side l hl;refine⟨_,h.2,fun hg j0 j a w o ho hrel=> ?_⟩;obtain⟨ad,h1,u,h2,h3⟩:=DN (P:=P) hrel.cZ ht (fun ha=>by subst ha;exact Nat.eq_of_beq_eq_true (by simpa using hm)) (hx hg j0 j a w hrel) hl (h.1 hg);refine⟨u,?_,h3⟩;simp[execOp,ho,h1,Instr.loadAt,Instr.sureAddr,h2]
  ·exact h.elim
 ·exact h.elim
def BL(P:Program)(t:TypeId):Option (TypeId×Nat):=
 match P.underlying t with
 |some (.slice e)=>match P.info? e with
  |some i=>some (e,i.size)
  |none=>none
 |_=>none
theorem zf{P:Program}{t e:TypeId}{m:Nat}(h:BL P t=some (e,m)):P.underlying t=some (.slice e)/\∃i,P.info? e=some i/\i.size=m:=by
 unfold BL at h;split at h
 ·rename_i e' hu;split at h
  ·rename_i i hi;simp only[Option.some.injEq,Prod.mk.injEq] at h;obtain⟨rfl,rfl⟩:=h;exact⟨hu,i,hi,rfl⟩
  ·simp at h
 ·simp at h
def xA(P:Program)(g:Bool)(t:TypeId)(x:AV)(i:Int)(K:AV->Prop):Prop:=
 match BL P t,x with
 |some (e,m),.d (.sl cap sz n row)=>Nat.beq m sz=true/\(g=true->0<=i/\i<n)/\K (.el (row i.toNat))
 |some (e,m),.ms b sz lo n=>Nat.beq m sz=true/\(g=true->0<=i/\i<n)/\K (.pe b sz (lo+i.toNat) 0)
 |_,_=>False
theorem JJ{P:Program}{t e:TypeId}{m:Nat}(h:BL P t=some (e,m))(a:Addr)(n c:Nat)(k:IntKind)(i:Int)(h0:0<=i)(h1:i<n)(w:World):
  (Instr.indexAt t (.slice (some a) n c) (.int k i)).run P w= .ok (.pointer (some (a.add (i.toNat*m)))) w:=by
 obtain⟨hu,inf,hi,hm⟩:=zf h;simp[Instr.indexAt,asIntOf,underlying,hu,h0,h1,Go.sizeOf,typeInfo,hi,hm]
theorem KO{P:Program}{g:Bool}{t:TypeId}{a:AV}{k:IntKind}{i:Int}{K:AV->Prop}(h:xA P g t a i K){s:St}{x y:Operand}(hx:Arg g s x a)(hy:Arg g s y (.d (.v (.int k i)))):
  ∃av,K av/\Bz P g s (.indexAddr t x y) av:=by
 unfold xA at h;split at h
 ·rename_i e m cap sz n row hs;obtain⟨hm,hside,hK⟩:=h;have hm:=Nat.eq_of_beq_eq_true hm;subst hm;refine⟨_,hK,fun hg j0 j a w o ho hrel=> ?_⟩;obtain⟨h0,h1⟩:=hside hg;have h2:=kD (hy hg j0 j a w hrel);have h3:=hx hg j0 j a w hrel;simp only[execOp,ho,h2];generalize a.eval x=u at h3
  cases h3 with|d h3=>
  cases h3 with
  |sl ad c val hcap hle ha hlt hb hlen hcell hr=>
   refine⟨.pointer (some (ad.add (i.toNat*m))),by simp[JJ hs ad n c k i h0 h1],?_⟩;rw[dX _ ha];have hi:i.toNat<n:=by omega
   refine .el _ (fun q=>val i.toNat q) rfl hlt hb (fun q hq=> ?_) (fun q hq=> ?_)
   ·rw[hlen _ hi] at hq;exact hcell _ hi q hq
   ·rw[hlen _ hi] at hq;exact hr _ hi q hq
  |zero p c hcap hp=>omega
 ·rename_i e m b sz lo n hs;obtain⟨hm,hside,hK⟩:=h;have hm:=Nat.eq_of_beq_eq_true hm;subst hm;refine⟨_,hK,fun hg j0 j a w o ho hrel=> ?_⟩;obtain⟨h0,h1⟩:=hside hg;have h2:=kD (hy hg j0 j a w hrel);have h3:=hx hg j0 j a w hrel;simp only[execOp,ho,h2];generalize a.eval x=u at h3
  cases h3 with
  | @ms _ _ _ _ cb c e' m' hb hsh hn hm=>
   refine⟨.pointer (some (Addr.add ⟨cb,lo*m,none⟩ (i.toNat*m))),by simp[JJ hs _ n c k i h0 h1],?_⟩;rw[dX _ rfl];have:lo*m+i.toNat*m=(lo+i.toNat)*m+0:=by rw[Nat.add_mul];rfl
   simp only[this];exact .pe hb
  |ms0 p hb=>omega
  |sN p e' m' hb=>omega
 ·exact h.elim
section
variable {P : Program} {g : Bool} {s : St}
theorem aas{x:Operand}{av:AV}(hx:Arg g s x av):Bz P g s (.move x) av:=
 fun hg j0 j a w o ho hrel=>⟨_,by simp[execOp,ho],hx hg j0 j a w hrel⟩
theorem V6{x:Operand}{av:AV}(hx:Arg g s x av):Bz P g s (.assign x) av:=
 fun hg j0 j a w o ho hrel=>⟨_,by simp[execOp,ho],hx hg j0 j a w hrel⟩
theorem aan{c x y:Operand}{b p q:Bool}(hc:Arg g s c (.d (.v (.bool b))))(hx:Arg (g&&b) s x (.d (.v (.bool p))))(hy:Arg (g&& !b) s y (.d (.v (.bool q)))):
  Bz P g s (.pick c x y) (.d (.v (.bool (cond b p q)))):=by
 intro hg j0 j a w o ho hrel;have h1:=kD (hc hg j0 j a w hrel);refine⟨_,?_,.d (.v _)⟩;cases b with
 |true=>
  have h2:=kD (hx (by simp[hg]) j0 j a w hrel);simp[execOp,ho,h1,asBool,h2]
 |false=>
  have h2:=kD (hy (by simp[hg]) j0 j a w hrel);simp[execOp,ho,h1,asBool,h2]
theorem QT{x:Operand}{i:Nat}{vs:List AV}{av:AV}(hx:Arg g s x (.eX vs))(hi:vs[i]? =some av):Bz P g s (.extract x i) av:=by
 intro hg j0 j a w o ho hrel;have h1:=hx hg j0 j a w hrel;simp only[execOp,ho];generalize a.eval x=u at h1
 cases h1 with
 |eX us hs h=>
  obtain⟨hlt,he⟩:=List.getElem?_eq_some_iff.1 hi;have h2:=h i hlt;have h3:vs.getD i .undef=av:=by simp[List.getD_eq_getElem?_getD,hi]
  rw[h3] at h2;obtain⟨h4,h5⟩:=nG (us:=us) (i:=i) (by omega);rw[h5] at h2;exact⟨us[i],by simp[Instr.extract,h4],h2⟩
def LG(P:Program)(t:TypeId)(f:Nat):Option (Nat×Bool×Nat):=
 match P.underlying t with
 |some (.struct fs)=>match fs[f]? with
  |some fd=>match gQ P fd.type with
   |some (agg,m)=>some (fd.offset,agg,m)
   |none=>none
  |none=>none
 |_=>none
theorem Yq{t:TypeId}{x:Operand}{f off m:Nat}{agg:Bool}(hf:LG P t f=some (off,agg,m))(hm:agg=false->m=1){cs:List AV}(hlt:off+m<=cs.length)(hx:Arg g s x (.agg cs)):
  Bz P g s (.field t x f) (loaded agg ((cs.drop off).take m)):=by
 intro hg j0 j a w o ho hrel;have h1:=hx hg j0 j a w hrel;simp only[execOp,ho];generalize a.eval x=u at h1
 unfold LG at hf;split at hf
 ·rename_i fs hu;split at hf
  ·rename_i fd hfd;split at hf
   ·rename_i ag mm ht;simp only[Option.some.injEq,Prod.mk.injEq] at hf;obtain⟨rfl,rfl,rfl⟩:=hf;cases h1 with
    |agg us hs h=>
     obtain⟨v,h2,h3⟩:=wY (P:=P) (off:=fd.offset) ht hm hs h hlt;exact⟨v,by simp[Instr.field,underlying,hu,hfd,asAgg,h2],h3⟩
   ·simp at hf
  ·simp at hf
 ·simp at hf
theorem OB{fn:Fn}{f c:Array Operand}{fs cs:List AV}(hf:fs.length=f.toList.length/\∀k,k<f.toList.length->Arg g s (f.toList.getD k (.const Go.undef)) (fs.getD k .undef))(hc:cs.length=c.toList.length/\∀k,k<c.toList.length->Arg g s (c.toList.getD k (.const Go.undef)) (cs.getD k .undef)):
  Bz P g s (.makeFunc fn f c) (.clo fn fs cs):=by
 intro hg j0 j a w o ho hrel;refine⟨.func fn (f.map a.eval) (c.map a.eval),by simp[execOp,ho,Instr.makeFunc],.clo _ _ (by simp;simpa using hf.1.symm) (by simp;simpa using hc.1.symm) (fun k hk=> ?_) (fun k hk=> ?_)⟩
 ·have hk':k<f.toList.length:=by rw[←hf.1];exact hk
  have:=hf.2 k hk' hg j0 j a w hrel;have hk2:k<f.size:=by simpa using hk'
  simpa[Array.getD_eq_getD_getElem?,List.getD_eq_getElem?_getD,hk2] using this
 ·have hk':k<c.toList.length:=by rw[←hc.1];exact hk
  have:=hc.2 k hk' hg j0 j a w hrel;have hk2:k<c.size:=by simpa using hk'
  simpa[Array.getD_eq_getD_getElem?,List.getD_eq_getElem?_getD,hk2] using this
def iD(P:Program)(t:TypeId):Nat:=
 match P.underlying t with
 |some (.slice _)=>1
 |some .string=>2
 |_=>0
def lenA(P:Program)(t:TypeId)(x:AV)(K:AV->Prop):Prop:=
 match x with
 | .d (.sl _ _ n _)=>Nat.beq (iD P t) 1=true/\K (.d (.v (.int .i64 n)))
 | .d (.v (.slice _ n _))=>Nat.beq (iD P t) 1=true/\K (.d (.v (.int .i64 n)))
 | .ms _ _ _ n=>Nat.beq (iD P t) 1=true/\K (.d (.v (.int .i64 n)))
 | .mc _ _ _ n _=>Nat.beq (iD P t) 1=true/\K (.d (.v (.int .i64 n)))
 | .d (.v (.string b))=>Nat.beq (iD P t) 2=true/\K (.d (.v (.int .i64 b.size)))
 |_=>False
theorem IL{t:TypeId}(h:Nat.beq (iD P t) 1=true): ∃e,P.underlying t=some (.slice e):=by
 unfold iD at h;split at h
 ·exact⟨_,by assumption⟩
 ·simp at h
 ·simp at h
theorem lenT_2{t:TypeId}(h:Nat.beq (iD P t) 2=true):P.underlying t=some .string:=by
 unfold iD at h;split at h
 ·simp at h
 ·assumption
 ·simp at h
theorem len_sound{t:TypeId}{x:Operand}{a:AV}{K:AV->Prop}(h:lenA P t a K)(hx:Arg g s x a)(at_:Array TypeId)(hat:at_= #[t]): ∃av,K av/\Bz P g s (.call { callee:= .builtin .len,args:= #[x],argTypes:=at_ }) av:=by
 subst hat;have base: ∀n:Int,(∀(j:Js) (w:World) u,R w j a u->(Builtin.len_ #[t] 0 #[u]).run P w= .ok (.int .i64 n) w)->Bz P g s (.call { callee:= .builtin .len,args:= #[x],argTypes:= #[t] }) (.d (.v (.int .i64 n))):=by
  intro n hh hg j0 j a w o ho hrel;have h1:=hh j w _ (hx hg j0 j a w hrel);refine⟨.int .i64 n,?_,.d (.v _)⟩;have h2:(Builtin.len_ #[t] o.type #[a.eval x]).run P w= .ok (.int .i64 n) w:=h1;simp[execOp,ho,resolve,invoke,builtin,h2]
 unfold lenA at h;split at h
 ·obtain⟨ht,hK⟩:=h;obtain⟨e,hu⟩:=IL ht;refine⟨_,hK,base _ fun j w u hr=> ?_⟩;cases hr with|d hr=>
  cases hr<;>simp[Builtin.len_,underlying,hu,goInt]
 ·obtain⟨ht,hK⟩:=h;obtain⟨e,hu⟩:=IL ht;refine⟨_,hK,base _ fun j w u hr=> ?_⟩;have:=kD hr;subst this;simp[Builtin.len_,underlying,hu,goInt]
 ·obtain⟨ht,hK⟩:=h;obtain⟨e,hu⟩:=IL ht;refine⟨_,hK,base _ fun j w u hr=> ?_⟩;cases hr<;>simp[Builtin.len_,underlying,hu,goInt]
 ·obtain⟨ht,hK⟩:=h;obtain⟨e,hu⟩:=IL ht;refine⟨_,hK,base _ fun j w u hr=> ?_⟩;cases hr with|mc hr q hv=>subst hv;simp[Builtin.len_,underlying,hu,goInt]
 ·obtain⟨ht,hK⟩:=h;have hu:=lenT_2 ht;refine⟨_,hK,base _ fun j w u hr=> ?_⟩;have:=kD hr;subst this;simp[Builtin.len_,underlying,hu,goInt]
 ·exact h.elim
def lu(mx:Bool)(x y:AV)(K:AV->Prop):Prop:=
 match x,y with
 | .d (.v (.int k a)),.d (.v (.int k' b))=>K (.d (.v (.int k (if mx then max a b else min a b))))
 |_,_=>False
theorem FY{mx:Bool}{x y:Operand}{a b:AV}{K:AV->Prop}(h:lu mx a b K)(hx:Arg g s x a)(hy:Arg g s y b)(at_:Array TypeId): ∃av,K av/\Bz P g s (.call { callee:= .builtin (if mx then .max else .min),args:= #[x,y],argTypes:=at_ }) av:=by
 unfold lu at h;split at h
 ·rename_i k m k' n;rw[show(if mx then max m n else min m n)=(if mx then(if m<n then n else m) else(if n<m then n else m)) by
   cases mx
   ·simp only[Bool.false_eq_true,if_false];split<;>omega
   ·simp only[if_true];split<;>omega] at h
  refine⟨_,h,fun hg j0 j a w o ho hrel=>⟨_,?_,.d (.v _)⟩⟩;have h1:=kD (hx hg j0 j a w hrel);have h2:=kD (hy hg j0 j a w hrel);cases mx
  ·simp[execOp,ho,resolve,invoke,builtin,Builtin.min_,Builtin.min2,h1,h2]
  ·simp[execOp,ho,resolve,invoke,builtin,Builtin.max_,Builtin.max2,h1,h2]
 ·exact h.elim
theorem DK{mx:Bool}{x y z:Operand}{a b c:AV}{K:AV->Prop}(h:lu mx a b fun d=>lu mx d c K)(hx:Arg g s x a)(hy:Arg g s y b)(hz:Arg g s z c)(at_:Array TypeId): ∃av,K av/\Bz P g s (.call { callee:= .builtin (if mx then .max else .min),args:= #[x,y,z],argTypes:=at_ }) av:=by
 unfold lu at h;split at h
 ·rename_i k m k' n;split at h
  ·rename_i k1 m1 k'' q he;simp only[AV.d.injEq,D.v.injEq,Value.int.injEq] at he;obtain⟨rfl,rfl⟩:=he;refine⟨_,h,fun hg j0 j a w o ho hrel=>⟨_,?_,.d (.v _)⟩⟩;have h1:=kD (hx hg j0 j a w hrel);have h2:=kD (hy hg j0 j a w hrel);have h3:=kD (hz hg j0 j a w hrel);cases mx
   ·have e: ∀p r:Int,(if r<p then r else p)=min p r:=fun p r=>by split<;>omega
    simp[execOp,ho,resolve,invoke,builtin,Builtin.min_,Builtin.min2,h1,h2,h3,e]
   ·have e: ∀p r:Int,(if p<r then r else p)=max p r:=fun p r=>by split<;>omega
    simp[execOp,ho,resolve,invoke,builtin,Builtin.max_,Builtin.max2,h1,h2,h3,e]
  ·exact h.elim
 ·exact h.elim
def yJ(P:Program)(t:TypeId):Option IntKind:=match P.underlying t with|some (.int k)=>some k|_=>none
theorem YU{src dst:TypeId}{k k':IntKind}{n:Int}{x:Operand}(hd:yJ P dst=some k')(hs:yJ P src=some k)(hx:Arg g s x (.d (.v (.int k n)))):Bz P g s (.convert src dst x) (.d (.v (.int k' (k'.wrap n)))):=by
 intro hg j0 j a w o ho hrel;have h1:=kD (hx hg j0 j a w hrel);have hu:P.underlying dst=some (.int k'):=by
  unfold yJ at hd;split at hd<;>simp_all
 have hv:P.underlying src=some (.int k):=by
  unfold yJ at hs;split at hs<;>simp_all
 exact⟨_,by simp[execOp,ho,h1,convert,underlying,hu,hv,Conv.intToInt],.d (.v _)⟩
def yF(P:Program)(t:TypeId):Bool:=match P.underlying t with|some .string=>true|_=>false
theorem YT{src dst:TypeId}{b:ByteArray}{x:Operand}(hd:yF P dst=true)(hs:yF P src=true)(hx:Arg g s x (.d (.v (.string b)))):Bz P g s (.convert src dst x) (.d (.v (.string b))):=by
 intro hg j0 j a w o ho hrel;have h1:=kD (hx hg j0 j a w hrel);have hu:P.underlying dst=some .string:=by
  unfold yF at hd;split at hd<;>simp_all
 have hv:P.underlying src=some .string:=by
  unfold yF at hs;split at hs<;>simp_all
 exact⟨_,by simp[execOp,ho,h1,convert,underlying,hu,hv],.d (.v _)⟩
theorem index_str{t:TypeId}(ht:yF P t=true){b:ByteArray}{k:IntKind}{i:Int}{x y:Operand}(hi:g=true->0<=i/\i<b.size)(hx:Arg g s x (.d (.v (.string b))))(hy:Arg g s y (.d (.v (.int k i)))):
  Bz P g s (.index t x y) (.d (.v (.int .u8 ((b[i.toNat]?).getD 0).toNat))):=by
 intro hg j0 j a w o ho hrel;have h1:=kD (hx hg j0 j a w hrel);have h2:=kD (hy hg j0 j a w hrel);have hu:P.underlying t=some .string:=by
  unfold yF at ht;split at ht<;>simp_all
 obtain⟨h3,h4⟩:=hi hg;have h5:b[i.toNat]? =some (b[i.toNat]'(by omega)):=getElem?_pos b i.toNat (by omega);exact⟨_,by simp[execOp,ho,h1,h2,Instr.index,asIntOf,underlying,hu,h3,h5],.d (.v _)⟩
def arV(P:Program)(t:TypeId):Option (Nat×Bool×Nat):=
 match P.underlying t with
 |some (.array n e)=>match gQ P e with
  |some (agg,m)=>some (n,agg,m)
  |none=>none
 |_=>none
theorem index_arr{t:TypeId}{n m:Nat}{agg:Bool}(ht:arV P t=some (n,agg,m))(hm:(agg||Nat.beq m 1)=true){cs:List AV}(hl:n*m<=cs.length){k:IntKind}{i:Int}{x y:Operand}(hi:g=true->0<=i/\i<n)(hx:Arg g s x (.agg cs))(hy:Arg g s y (.d (.v (.int k i)))):
  Bz P g s (.index t x y) (loaded agg ((cs.drop (i.toNat*m)).take m)):=by
 intro hg j0 j a w o ho hrel;have h1:=hx hg j0 j a w hrel;have h2:=kD (hy hg j0 j a w hrel);have hu: ∃e,P.underlying t=some (.array n e)/\gQ P e=some (agg,m):=by
  unfold arV at ht;split at ht
  ·rename_i n' e h3;split at ht
   ·rename_i h4;cases ht;exact⟨e,h3,h4⟩
   ·cases ht
  ·cases ht
 obtain⟨e,hu,he⟩:=hu;obtain⟨h3,h4⟩:=hi hg;generalize hv:a.eval x=u at h1
 cases h1 with
 |agg us hus hur=>
 have hlt:i.toNat*m+m<=cs.length:=by
  have h5:i.toNat+1<=n:=by omega
  have h6:(i.toNat+1)*m<=n*m:=Nat.mul_le_mul_right m h5;have h7:(i.toNat+1)*m=i.toNat*m+m:=by rw[Nat.add_mul,Nat.one_mul]
  omega
 obtain⟨v,hp,hr⟩:=wY (P:=P) (w:=w) (j:=j) (off:=i.toNat*m) he (by intro h;subst h;simpa using hm) hus hur hlt;refine⟨v,?_,hr⟩;have hs:=wG he w;simp[execOp,ho,hv,h2,Instr.index,asIntOf,underlying,hu,h3,h4,hs,hp]
def DJ:AV->Bool
 | .ptr .. =>true
 | .pe .. =>true
 | .el _=>true
 | .op b _=>b
 | .clo (.func _) _ _=>true
 |_=>false
theorem Ol{x:Operand}{av:AV}(hx:Arg g s x av)(ha:DJ av=true):Bz P g s (.nilCheck x) av:=by
 intro hg j0 j a w o ho hrel;have h1:=hx hg j0 j a w hrel;refine⟨a.eval x,?_,h1⟩;simp only[execOp,ho];generalize a.eval x=u at h1
 cases h1 with
 |ptr h=>rfl
 |pe h=>rfl
 |el=>rfl
 | @op b cs v hh h0=>
  have:=hh ha;cases this with|el=>rfl
 | @clo fn fs cs ff cc _ _ _ _=>
  cases fn with
  |func f=>rfl
  |_=>simp[DJ] at ha
 |_=>simp[DJ] at ha
end
section
variable {P : Program} {g : Bool} {s : St}
theorem gW{w w':World}{S:Sem Value}{v:Value}(h:S.run P w= .ok v w'):(do pure (Next.value (←S)):Sem Next).run P w= .ok (.value v) w':=by
 simp[h]
def bnd(g:Bool)(s:St)(x:Option Operand)(dflt:Int)(K:Int->Prop):Prop:=
 match x with
 |none=>K dflt
 |some x=>arg g s x fun
  | .d (.v (.int _ i))=>K i
  |_=>False
def Bnd(g:Bool)(s:St)(x:Option Operand)(dflt i:Int):Prop:=
 match x with
 |none=>i=dflt
 |some x=> ∃k,Arg g s x (.d (.v (.int k i)))
theorem iG{x:Option Operand}{dflt:Int}{K:Int->Prop}(h:bnd g s x dflt K): ∃i,K i/\Bnd g s x dflt i:=by
 cases x with
 |none=>exact⟨_,h,rfl⟩
 |some x=>
  obtain⟨av,h1,h2⟩:=aB h;split at h1
  ·exact⟨_,h1,_,h2⟩
  ·exact h1.elim
def Rw(σ:List aC)(b sz x:Nat):Prop:=
 match σ[b]? with
 |some (.arr sz' n' _)=>Nat.beq sz sz'=true/\0<sz/\x<=n'
 |_=>False
theorem room_ok{w:World}{j:Js}{σ:List aC}{b sz lo c x cb m:Nat}{e:TypeId}(hS:aS w j σ)(hr:Rw σ b sz x)(hj:j[b]? =some (some cb))(hsh:w.shape? cb=some (e,m))(hm:(lo+c)*sz=m):x<=lo+c:=by
 unfold Rw at hr;split at hr
 ·rename_i sz' n' row hb;obtain⟨h1,h2,h3⟩:=hr;have:=Nat.eq_of_beq_eq_true h1;subst this;obtain⟨o,ho,hB⟩:=hS.blk b _ hb;rw[hj] at ho;cases ho
  obtain⟨C,e',⟨f,hC,hf'⟩,hCs,_⟩:=hB;have hf:=Or.imp_left And.left hf';have:C.size=m:=by simp[World.shape?,hC] at hsh;exact hsh.2
  have h4:n'*sz<=(lo+c)*sz:=by omega
  exact Nat.le_trans h3 (Nat.le_of_mul_le_mul_right h4 h2)
 ·exact hr.elim
theorem room_none{w:World}{j:Js}{σ:List aC}{b sz x:Nat}(hS:aS w j σ)(hr:Rw σ b sz x)(hj:j[b]? =some none):x=0:=by
 unfold Rw at hr;split at hr
 ·rename_i sz' n' row hb;obtain⟨o,ho,hB⟩:=hS.blk b _ hb;rw[hj] at ho;cases ho
  have:n'=0:=hB;omega
 ·exact hr.elim
def MP(P:Program)(g:Bool)(t:TypeId)(s:St)(x:AV)(lo hi mx:Option Operand)(K:AV->Prop):Prop:=
 match x with
 | .d (.v (.string b))=>(yF P t&&mx.isNone)=true/\bnd g s lo 0 fun l=>bnd g s hi b.size fun h=>(g=true->0<=l/\l<=h/\h<=b.size)/\K (.d (.v (.string (b.extract l.toNat h.toNat))))
 | .d (.sl cap sz n row)=>(match BL P t with
  |some (_,m)=>Nat.beq m sz=true
  |none=>False)/\bnd g s lo 0 fun l=>bnd g s hi n fun h=>(match mx with
   |none=>(g=true->0<=l/\l<=h/\h<=n)/\K (.d (.sl (cap.map (·-l.toNat)) sz (h-l).toNat fun i=>row (l.toNat+i)))
   |some m=>hi.isSome=true/\bnd g s (some m) 0 fun m=>(g=true->0<=l/\l<=h/\h<=m/\m<=n)/\K (.d (.sl (some (m-l).toNat) sz (h-l).toNat fun i=>row (l.toNat+i))))
 | .d (.v (.slice none 0 0))=>(match BL P t with
  |some _=>True
  |none=>False)/\bnd g s lo 0 fun l=>bnd g s hi 0 fun h=>mx.isNone=true/\(g=true->l=0/\h=0)/\K (.d (.v (.slice none 0 0)))
 | .ms b sz lo' n=>(match BL P t with
  |some (_,m)=>Nat.beq m sz=true
  |none=>False)/\bnd g s lo 0 fun l=>bnd g s hi n fun h=>(match mx with
   |none=>(g=true->0<=l/\l<=h/\(h<=n\/Rw s.σ b sz (lo'+h.toNat)))/\K (.ms b sz (lo'+l.toNat) (h-l).toNat)
   |some m=>hi.isSome=true/\bnd g s (some m) 0 fun m=>(g=true->0<=l/\l<=h/\h<=m/\m<=n)/\K .undef)
 | .mc b sz lo' n c=>(match BL P t with
  |some (_,m)=>Nat.beq m sz=true
  |none=>False)/\bnd g s lo 0 fun l=>bnd g s hi n fun h=>mx.isNone=true/\(g=true->0<=l/\l<=h/\h<=c)/\K (.mc b sz (lo'+l.toNat) (h-l).toNat (c-l.toNat))
 |_=>False
def BV(ev:Operand->Value)(x:Option Operand)(dflt i:Int):Prop:=
 match x with
 |none=>i=dflt
 |some x=> ∃k,ev x= .int k i
theorem jZ{isS:Bool}{len cap:Nat}{lo hi:Option Operand}{l h:Int}{ev:Operand->Value}
  (hl:BV ev lo 0 l) (hh:BV ev hi len h) (h0:0<=l) (h1:l<=h) (h2:h<=cap) (w:World):
  (Instr.sliceBounds isS len cap (lo.map ev) (hi.map ev) none).run P w= .ok (l.toNat,h.toNat,cap) w:=by
 have e1:0<=h:=by omega
 have e2:(h.toNat:Int)=h:=Int.toNat_of_nonneg e1;cases hi with
 |none=>
  simp only[BV] at hh;subst hh;cases lo with
  |none=>simp only[BV] at hl;subst hl;simp[Instr.sliceBounds]
  |some x=>
   obtain⟨k,hx⟩:=hl;simp[Instr.sliceBounds,Instr.sliceBound,asIntOf,hx,h0,h1]
 |some y=>
  obtain⟨k',hy⟩:=hh;cases lo with
  |none=>simp only[BV] at hl;subst hl;simp[Instr.sliceBounds,Instr.sliceBound,asIntOf,hy,e1,h2]
  |some x=>
   obtain⟨k,hx⟩:=hl;simp[Instr.sliceBounds,Instr.sliceBound,asIntOf,hx,hy,e1,h2,h0,show l<=max h 0 by omega]
theorem pI{isS:Bool}{len cap:Nat}{lo:Option Operand}{hi mx:Operand}{l h m:Int}{ev:Operand->Value}
  (hl:BV ev lo 0 l) (hh: ∃k,ev hi= .int k h) (hm: ∃k,ev mx= .int k m) (h0:0<=l) (h1:l<=h) (h2:h<=m) (h3:m<=cap) (w:World):
  (Instr.sliceBounds isS len cap (lo.map ev) (some (ev hi)) (some (ev mx))).run P w= .ok (l.toNat,h.toNat,m.toNat) w:=by
 obtain⟨k,hh⟩:=hh;obtain⟨k',hm⟩:=hm;have e0:0<=m:=by omega
 have e1:0<=h:=by omega
 have e2:h<=(m.toNat:Int):=by omega
 cases lo with
 |none=>simp only[BV] at hl;subst hl;simp[Instr.sliceBounds,Instr.sliceBound,asIntOf,hh,hm,e0,e1,h3,show h<=max m 0 by omega]
 |some x=>
  obtain⟨k,hx⟩:=hl;simp[Instr.sliceBounds,Instr.sliceBound,asIntOf,hx,hh,hm,e0,e1,h3,h0,show h<=max m 0 by omega,show l<=max h 0 by omega]
theorem Bnd.at{x:Option Operand}{dflt i:Int}(h:Bnd g s x dflt i)(hg:g=true){j0:J0}{j:Js}{a:Act}{w:World}(hr:Rel j0 s j a w):BV a.eval x dflt i:=by
 cases x with
 |none=>exact h
 |some x=>obtain⟨k,hk⟩:=h;exact⟨k,kD (hk hg j0 j a w hr)⟩
theorem W9{t:TypeId}{x:Operand}{lo hi mx:Option Operand}{av:AV}{K:AV->Prop}(h:MP P g t s av lo hi mx K)(hx:Arg g s x av): ∃r,K r/\Bz P g s (.slice t x lo hi mx) r:=by
 unfold MP at h;split at h
 ·rename_i b;obtain⟨ht,h⟩:=h;simp only[Bool.and_eq_true] at ht;obtain⟨l,h,hl⟩:=iG h;obtain⟨hh,h,hhi⟩:=iG h;obtain⟨hs,hK⟩:=h;have hu:P.underlying t=some .string:=by
   have:=ht.1;unfold yF at this;split at this<;>simp_all
  have hmx:mx=none:=by cases mx<;>simp_all
  subst hmx;refine⟨_,hK,fun hg j0 j a w o ho hrel=>⟨_,?_,.d (.v _)⟩⟩;have h1:=kD (hx hg j0 j a w hrel);obtain⟨h2,h3,h4⟩:=hs hg;have hb:=jZ (P:=P) (isS:=false) (len:=b.size) (cap:=b.size) (hl.at hg hrel) (hhi.at hg hrel) h2 h3 h4 w;simp[execOp,ho,h1,Instr.sliceAt,Instr.slice,underlying,hu,hb]
 ·rename_i cap sz n row;obtain⟨ht,h⟩:=h;obtain⟨l,h,hl⟩:=iG h;obtain⟨hh,h,hhi⟩:=iG h;split at ht
  ·rename_i e m hsl;have hm:=Nat.eq_of_beq_eq_true ht;subst hm;obtain⟨hu,inf,xC,hsz⟩:=zf hsl;cases mx with
   |none=>
    simp only at h;obtain⟨hs,hK⟩:=h;refine⟨_,hK,fun hg j0 j a w o ho hrel=> ?_⟩;obtain⟨h2,h3,h4⟩:=hs hg;have h1:=hx hg j0 j a w hrel;simp only[execOp,ho];generalize a.eval x=u at h1
    cases h1 with|d h1=>
    cases h1 with
    |sl ad c val hcap hle ha hlt hb hlen hcell hr=>
     have hbr:=jZ (P:=P) (isS:=true) (len:=n) (cap:=c) (hl.at hg hrel) (hhi.at hg hrel) h2 h3 (by omega) w;have hrun:(Instr.sliceAt t (.slice (some ad) n c) (lo.map a.eval) (hi.map a.eval) none).run P w= .ok (.slice (if c=l.toNat then some ad else(some ad).map (·.add (l.toNat*m))) (hh.toNat-l.toNat) (c-l.toNat)) w:=by
      simp[Instr.sliceAt,Instr.slice,underlying,hu,hbr,Go.sizeOf,typeInfo,xC,hsz]
     refine⟨_,gW hrun,.d ?_⟩;have e1:(hh-l).toNat=hh.toNat-l.toNat:=by omega
     rw[e1];have hcap':cap.map (·-l.toNat)=none\/cap.map (·-l.toNat)=some (c-l.toNat):=by
      rcases hcap with rfl|rfl
      ·exact .inl rfl
      ·exact .inr rfl
     by_cases hcl:c=l.toNat
     ·have:hh.toNat-l.toNat=0:=by omega
      rw[if_pos hcl,this];exact .zero _ _ hcap' (by simp)
     ·rw[if_neg hcl];simp only[Option.map_some];rw[dX _ ha];refine .sl _ _ (fun i k=>val (l.toNat+i) k) hcap' (by omega) rfl hlt hb (fun i hi=>hlen _ (by omega)) (fun i hi k hk=> ?_) (fun i hi k hk=>hr _ (by omega) k hk);have:=hcell (l.toNat+i) (by omega) k hk;rw[Nat.add_mul,←Nat.add_assoc] at this;exact this
    |zero p c hcap hp=>
     have e0:l=0:=by omega
     have e1:hh=0:=by omega
     subst e0 e1;have hbr:=jZ (P:=P) (isS:=true) (len:=0) (cap:=c) (hl.at hg hrel) (hhi.at hg hrel) (by omega) (by omega) (by omega) w;have hrun:(Instr.sliceAt t (.slice p 0 c) (lo.map a.eval) (hi.map a.eval) none).run P w= .ok (.slice p 0 c) w:=by
      have e2:(p.map (·.add (0*m)))=p:=by cases p<;>simp[Addr.add]
      have e3:(p.map (·.add 0))=p:=by cases p<;>simp[Addr.add]
      simp[Instr.sliceAt,Instr.slice,underlying,hu,hbr,Go.sizeOf,typeInfo,xC,hsz,e3]
     refine⟨_,gW hrun,.d ?_⟩;refine .zero _ _ ?_ hp;rcases hcap with rfl|rfl
     ·exact .inl rfl
     ·exact .inr rfl
   |some mm=>
    simp only at h;obtain⟨hsome,h⟩:=h;obtain⟨q,h,hq⟩:=iG h;obtain⟨hs,hK⟩:=h;refine⟨_,hK,fun hg j0 j a w o ho hrel=> ?_⟩;obtain⟨h2,h3,h4,h5⟩:=hs hg;have h1:=hx hg j0 j a w hrel;simp only[execOp,ho];generalize a.eval x=u at h1
    cases hi with
    |none=>simp at hsome
    |some hy=>
    cases h1 with|d h1=>
    cases h1 with
    |sl ad c val hcap hle ha hlt hb hlen hcell hr=>
     have hbr:=pI (P:=P) (isS:=true) (len:=n) (cap:=c) (hl.at hg hrel) (hhi.at hg hrel) (hq.at hg hrel) h2 h3 h4 (by omega) w;have hrun:(Instr.sliceAt t (.slice (some ad) n c) (lo.map a.eval) ((some hy).map a.eval) ((some mm).map a.eval)).run P w= .ok (.slice (if q.toNat=l.toNat then some ad else(some ad).map (·.add (l.toNat*m))) (hh.toNat-l.toNat) (q.toNat-l.toNat)) w:=by
      simp only[Option.map_some];simp[Instr.sliceAt,Instr.slice,underlying,hu,hbr,Go.sizeOf,typeInfo,xC,hsz]
     refine⟨_,gW hrun,.d ?_⟩;have e1:(hh-l).toNat=hh.toNat-l.toNat:=by omega
     have e2:(q-l).toNat=q.toNat-l.toNat:=by omega
     rw[e1,e2];by_cases hcl:q.toNat=l.toNat
     ·have:hh.toNat-l.toNat=0:=by omega
      rw[if_pos hcl,this];exact .zero _ _ (.inr rfl) (by simp)
     ·rw[if_neg hcl];simp only[Option.map_some];rw[dX _ ha];refine .sl _ _ (fun i k=>val (l.toNat+i) k) (.inr rfl) (by omega) rfl hlt hb (fun i hi=>hlen _ (by omega)) (fun i hi k hk=> ?_) (fun i hi k hk=>hr _ (by omega) k hk);have:=hcell (l.toNat+i) (by omega) k hk;rw[Nat.add_mul,←Nat.add_assoc] at this;exact this
    |zero p c hcap hp=>
     have e0:l=0:=by omega
     have e1:hh=0:=by omega
     have e2:q=0:=by omega
     subst e0 e1 e2;have hbr:=pI (P:=P) (isS:=true) (len:=0) (cap:=c) (hl.at hg hrel) (hhi.at hg hrel) (hq.at hg hrel) (by omega) (by omega) (by omega) (by omega) w;have hrun:(Instr.sliceAt t (.slice p 0 c) (lo.map a.eval) ((some hy).map a.eval) ((some mm).map a.eval)).run P w= .ok (.slice p 0 0) w:=by
      simp only[Option.map_some];simp[Instr.sliceAt,Instr.slice,underlying,hu,hbr,Go.sizeOf,typeInfo,xC,hsz]
     refine⟨_,gW hrun,.d ?_⟩;exact .zero _ _ (.inr rfl) (fun _=>rfl)
  ·exact ht.elim
 ·obtain⟨ht,h⟩:=h;obtain⟨l,h,hl⟩:=iG h;obtain⟨hh,h,hhi⟩:=iG h;obtain⟨hmx,hs,hK⟩:=h;have hmx:mx=none:=by cases mx<;>simp_all
  subst hmx;split at ht
  ·rename_i e m hsl;obtain⟨hu,inf,xC,hsz⟩:=zf hsl;refine⟨_,hK,fun hg j0 j a w o ho hrel=> ?_⟩;obtain⟨e0,e1⟩:=hs hg;subst e0 e1;have h1:=kD (hx hg j0 j a w hrel);have hbr:=jZ (P:=P) (isS:=true) (len:=0) (cap:=0) (hl.at hg hrel) (hhi.at hg hrel) (by omega) (by omega) (by omega) w;have hrun:(Instr.sliceAt t (.slice none 0 0) (lo.map a.eval) (hi.map a.eval) none).run P w= .ok (.slice none 0 0) w:=by
    simp[Instr.sliceAt,Instr.slice,underlying,hu,hbr,Go.sizeOf,typeInfo,xC]
   simp only[execOp,ho,h1];exact⟨_,gW hrun,.d (.v _)⟩
  ·exact ht.elim
 ·rename_i b sz lo' n;obtain⟨ht,h⟩:=h;obtain⟨l,h,hl⟩:=iG h;obtain⟨hh,h,hhi⟩:=iG h;split at ht
  ·rename_i e m hsl;have hm:=Nat.eq_of_beq_eq_true ht;subst hm;obtain⟨hu,inf,xC,hsz⟩:=zf hsl;cases mx with
   |none=>
    obtain⟨hs,hK⟩:=h;refine⟨_,hK,fun hg j0 j a w o ho hrel=> ?_⟩;obtain⟨h2,h3,h4⟩:=hs hg;have h1:=hx hg j0 j a w hrel;simp only[execOp,ho];generalize a.eval x=u at h1
    have e1:(hh-l).toNat=hh.toNat-l.toNat:=by omega
    rw[e1];cases h1 with
    | @ms _ _ _ _ cb c e' m' hb hsh hn hmm=>
     have hc:hh<=c:=by
      rcases h4 with h4|h4
      ·omega
      ·have:=room_ok hrel.cZ h4 hb hsh hmm;omega
     have hbr:=jZ (P:=P) (isS:=true) (len:=n) (cap:=c) (hl.at hg hrel) (hhi.at hg hrel) h2 h3 hc w;have hrun:(Instr.sliceAt t (.slice (some ⟨cb,lo'*m,none⟩) n c) (lo.map a.eval) (hi.map a.eval) none).run P w= .ok (.slice (if c=l.toNat then some (⟨cb,lo'*m,none⟩:Addr) else some (Addr.add ⟨cb,lo'*m,none⟩ (l.toNat*m))) (hh.toNat-l.toNat) (c-l.toNat)) w:=by
      simp[Instr.sliceAt,Instr.slice,underlying,hu,hbr,Go.sizeOf,typeInfo,xC,hsz]
     refine⟨_,gW hrun,?_⟩;have h6:lo'+l.toNat+(c-l.toNat)=lo'+c:=by omega
     by_cases h7:c=l.toNat
     ·rw[if_pos h7];by_cases h8:l.toNat=0
      ·rw[h8,Nat.add_zero,Nat.sub_zero,Nat.sub_zero];refine .ms _ _ _ hb hsh (by omega) hmm
      ·have h9:hh.toNat-l.toNat=0:=by omega
       have h10:c-l.toNat=0:=by omega
       rw[h9,h10];refine .sN _ _ _ hb hsh (by omega) ?_;rw[←h7];exact hmm
     ·rw[if_neg h7,dX _ rfl,←Nat.add_mul];refine .ms _ _ _ hb hsh (by omega) ?_;rw[h6];exact hmm
    | @sN _ _ _ cb p e' m' hb hsh hlo' hmm=>
     have e3:hh=0:=by
      rcases h4 with h4|h4
      ·omega
      ·have:=room_ok (c:=0) hrel.cZ h4 hb hsh (by rw[Nat.add_zero];exact hmm);omega
     have e2:l=0:=by omega
     subst e2 e3;have hbr:=jZ (P:=P) (isS:=true) (len:=0) (cap:=0) (hl.at hg hrel) (hhi.at hg hrel) (by omega) (by omega) (by omega) w;have hrun:(Instr.sliceAt t (.slice p 0 0) (lo.map a.eval) (hi.map a.eval) none).run P w= .ok (.slice p 0 0) w:=by
      simp[Instr.sliceAt,Instr.slice,underlying,hu,hbr,Go.sizeOf,typeInfo,xC,hsz]
     exact⟨_,gW hrun,.sN _ _ _ hb hsh hlo' hmm⟩
    |ms0 p hb=>
     have e3:hh=0:=by
      rcases h4 with h4|h4
      ·omega
      ·have:=room_none hrel.cZ h4 hb;omega
     have e2:l=0:=by omega
     subst e2 e3;have hbr:=jZ (P:=P) (isS:=true) (len:=0) (cap:=0) (hl.at hg hrel) (hhi.at hg hrel) (by omega) (by omega) (by omega) w;have hrun:(Instr.sliceAt t (.slice p 0 0) (lo.map a.eval) (hi.map a.eval) none).run P w= .ok (.slice p 0 0) w:=by
      simp[Instr.sliceAt,Instr.slice,underlying,hu,hbr,Go.sizeOf,typeInfo,xC,hsz]
     exact⟨_,gW hrun,.ms0 _ hb⟩
   |some mm=>
    simp only at h;obtain⟨hsome,h⟩:=h;obtain⟨q,h,hq⟩:=iG h;obtain⟨hs,hK⟩:=h;refine⟨_,hK,fun hg j0 j a w o ho hrel=> ?_⟩;obtain⟨h2,h3,h4,h5⟩:=hs hg;have h1:=hx hg j0 j a w hrel;simp only[execOp,ho];generalize a.eval x=u at h1
    cases hi with
    |none=>simp at hsome
    |some hy=>
    cases h1 with
    | @ms _ _ _ _ cb c e' m' hb hsh hn hmm=>
     have hbr:=pI (P:=P) (isS:=true) (len:=n) (cap:=c) (hl.at hg hrel) (hhi.at hg hrel) (hq.at hg hrel) h2 h3 h4 (by omega) w;have hrun:(Instr.sliceAt t (.slice (some ⟨cb,lo'*m,none⟩) n c) (lo.map a.eval) ((some hy).map a.eval) ((some mm).map a.eval)).run P w= .ok (.slice (if q.toNat=l.toNat then some ⟨cb,lo'*m,none⟩ else(some (⟨cb,lo'*m,none⟩:Addr)).map (·.add (l.toNat*m))) (hh.toNat-l.toNat) (q.toNat-l.toNat)) w:=by
      simp only[Option.map_some];simp[Instr.sliceAt,Instr.slice,underlying,hu,hbr,Go.sizeOf,typeInfo,xC,hsz]
     exact⟨_,gW hrun,.undef _⟩
    |ms0 p hb=>
     have e0:l=0:=by omega
     have e1:hh=0:=by omega
     have e2:q=0:=by omega
     subst e0 e1 e2;have hbr:=pI (P:=P) (isS:=true) (len:=0) (cap:=0) (hl.at hg hrel) (hhi.at hg hrel) (hq.at hg hrel) (by omega) (by omega) (by omega) (by omega) w;have hrun:(Instr.sliceAt t (.slice p 0 0) (lo.map a.eval) ((some hy).map a.eval) ((some mm).map a.eval)).run P w= .ok (.slice p 0 0) w:=by
      simp only[Option.map_some];simp[Instr.sliceAt,Instr.slice,underlying,hu,hbr,Go.sizeOf,typeInfo,xC,hsz]
     exact⟨_,gW hrun,.undef _⟩
    |sN p e' m' hb=>
     have e0:l=0:=by omega
     have e1:hh=0:=by omega
     have e2:q=0:=by omega
     subst e0 e1 e2;have hbr:=pI (P:=P) (isS:=true) (len:=0) (cap:=0) (hl.at hg hrel) (hhi.at hg hrel) (hq.at hg hrel) (by omega) (by omega) (by omega) (by omega) w;have hrun:(Instr.sliceAt t (.slice p 0 0) (lo.map a.eval) ((some hy).map a.eval) ((some mm).map a.eval)).run P w= .ok (.slice p 0 0) w:=by
      simp only[Option.map_some];simp[Instr.sliceAt,Instr.slice,underlying,hu,hbr,Go.sizeOf,typeInfo,xC,hsz]
     exact⟨_,gW hrun,.undef _⟩
  ·exact ht.elim
 ·rename_i b sz lo' n c;obtain⟨ht,h⟩:=h;obtain⟨l,h,hl⟩:=iG h;obtain⟨hh,h,hhi⟩:=iG h;obtain⟨hmx,hs,hK⟩:=h;have hmx:mx=none:=by cases mx<;>simp_all
  subst hmx;split at ht
  ·rename_i e m hsl;have hm:=Nat.eq_of_beq_eq_true ht;subst hm;obtain⟨hu,inf,xC,hsz⟩:=zf hsl;refine⟨_,hK,fun hg j0 j a w o ho hrel=> ?_⟩;obtain⟨h2,h3,h4⟩:=hs hg;have h1:=hx hg j0 j a w hrel;simp only[execOp,ho];generalize a.eval x=u at h1
   have e1:(hh-l).toNat=hh.toNat-l.toNat:=by omega
   rw[e1];have hbr:=jZ (P:=P) (isS:=true) (len:=n) (cap:=c) (hl.at hg hrel) (hhi.at hg hrel) h2 h3 (by omega) w;cases h1 with|mc h1 q hv=>
   cases h1 with
   | @ms _ _ _ _ cb c' e' m' hb hsh hn hmm=>
    cases hv
    have hrun:(Instr.sliceAt t (.slice (some ⟨cb,lo'*m,none⟩) n c) (lo.map a.eval) (hi.map a.eval) none).run P w= .ok (.slice (if c=l.toNat then some (⟨cb,lo'*m,none⟩:Addr) else some (Addr.add ⟨cb,lo'*m,none⟩ (l.toNat*m))) (hh.toNat-l.toNat) (c-l.toNat)) w:=by
     simp[Instr.sliceAt,Instr.slice,underlying,hu,hbr,Go.sizeOf,typeInfo,xC,hsz]
    refine⟨_,gW hrun,.mc ?_ _ rfl⟩;have h6:lo'+l.toNat+(c-l.toNat)=lo'+c:=by omega
    by_cases h7:c=l.toNat
    ·rw[if_pos h7];by_cases h8:l.toNat=0
     ·rw[h8,Nat.add_zero,Nat.sub_zero,Nat.sub_zero];exact .ms _ _ _ hb hsh (by omega) hmm
     ·have h9:hh.toNat-l.toNat=0:=by omega
      have h10:c-l.toNat=0:=by omega
      rw[h9,h10];refine .sN _ _ _ hb hsh (by omega) ?_;rw[←h7];exact hmm
    ·rw[if_neg h7,dX _ rfl,←Nat.add_mul];refine .ms _ _ _ hb hsh (by omega) ?_;rw[h6];exact hmm
   |ms0 p hb=>
    cases hv
    have e3:hh=0:=by omega
    have e2:l=0:=by omega
    subst e2 e3;have hrun:(Instr.sliceAt t (.slice q 0 0) (lo.map a.eval) (hi.map a.eval) none).run P w= .ok (.slice q 0 0) w:=by
     simp[Instr.sliceAt,Instr.slice,underlying,hu,hbr,Go.sizeOf,typeInfo,xC,hsz]
    exact⟨_,gW hrun,.mc (.ms0 _ hb) _ rfl⟩
   | @sN _ _ _ cb p e' m' hb hsh hlo' hmm=>
    cases hv
    have e3:hh=0:=by omega
    have e2:l=0:=by omega
    subst e2 e3;have hrun:(Instr.sliceAt t (.slice q 0 0) (lo.map a.eval) (hi.map a.eval) none).run P w= .ok (.slice q 0 0) w:=by
     simp[Instr.sliceAt,Instr.slice,underlying,hu,hbr,Go.sizeOf,typeInfo,xC,hsz]
    exact⟨_,gW hrun,.mc (.sN _ _ _ hb hsh hlo' hmm) _ rfl⟩
  ·exact ht.elim
 ·exact h.elim
end
def Jv:AV->Bool
 | .d (.v x)=>x.oneCell'
 | .d (.sl _ _ _ _)=>true
 | .ptr _ _=>true
 | .pe _ _ _ _=>true
 | .el _=>true
 | .op _ _=>true
 | .ms _ _ _ _=>true
 | .mc _ _ _ _ _=>true
 | .mp _=>true
 | .clo _ _ _=>true
 | .xX _=>true
 | .fm _ _ _=>true
 |_=>false
theorem Oh{w:World}{j:Js}{av:AV}{v:Value}(h:R w j av v)(ho:Jv av=true):v.oneCell'=true:=by
 cases h with
 |d h=>cases h<;>simp_all [Jv,Value.oneCell']
 |mc h q hv=>subst hv;rfl
 | @op b _ _ hh h0=>
  cases b with
  |true=>cases hh rfl with|el a=>rfl
  |false=>rw[h0 rfl];rfl
 |_=>simp_all [Jv,Value.oneCell']
def jD:List AV->Bool
 |[]=>true
 |x::xs=>Jv x&&jD xs
theorem J6: ∀{cs:List AV} {k:Nat},jD cs=true->k<cs.length->Jv (cs.getD k .undef)=true
 |[],_,_,hk=>by simp at hk
 |x::xs,0,h,_=>by simp[jD] at h;simpa using h.1
 |x::xs,k+1,h,hk=>by
  simp[jD] at h;have:=J6 (k:=k) h.2 (by simpa using hk);simpa using this
theorem AO{w:World}{j:Js}{av:AV}{v:Value}(h:R w j av v)(ho:jD (cellsOf av)=true):
  v.cells.size=(cellsOf av).length/\∀k,k<(cellsOf av).length->R w j ((cellsOf av).getD k .undef) (v.cells.getD k Go.undef)/\(v.cells.getD k Go.undef).oneCell'=true:=by
 have fin: ∀k,k<(cellsOf av).length->R w j ((cellsOf av).getD k .undef) (v.cells.getD k Go.undef)->(v.cells.getD k Go.undef).oneCell'=true:=fun k hk hr=>Oh hr (J6 ho hk);cases h with
 |agg vs hs h=>exact⟨hs,fun k hk=>⟨h k hk,fin k hk (h k hk)⟩⟩
 |d h=>
  have hv:v.oneCell'=true:=Oh (.d h) (by simpa[cellsOf,jD] using ho);have hc:v.cells= #[v]:=by cases v<;>simp_all [Value.oneCell',Value.cells]
  refine⟨by rw[hc];rfl,fun k hk=> ?_⟩;simp only[cellsOf,List.length_singleton,Nat.lt_one_iff] at hk;subst hk;rw[hc];exact⟨.d h,hv⟩
 |undef|iff|eX=>simp[cellsOf,jD,Jv] at ho
 |ptr h=>exact⟨rfl,fun k hk=>by simp only[cellsOf,List.length_singleton,Nat.lt_one_iff] at hk;subst hk;exact⟨.ptr h,rfl⟩⟩
 |pe h=>exact⟨rfl,fun k hk=>by simp only[cellsOf,List.length_singleton,Nat.lt_one_iff] at hk;subst hk;exact⟨.pe h,rfl⟩⟩
 |el a val h1 h2 h3 h4 h5=>exact⟨rfl,fun k hk=>by simp only[cellsOf,List.length_singleton,Nat.lt_one_iff] at hk;subst hk;exact⟨.el a val h1 h2 h3 h4 h5,rfl⟩⟩
 |ms c e m h1 h2 h3 h4=>exact⟨rfl,fun k hk=>by simp only[cellsOf,List.length_singleton,Nat.lt_one_iff] at hk;subst hk;exact⟨.ms c e m h1 h2 h3 h4,rfl⟩⟩
 |ms0 p h=>exact⟨rfl,fun k hk=>by simp only[cellsOf,List.length_singleton,Nat.lt_one_iff] at hk;subst hk;exact⟨.ms0 p h,rfl⟩⟩
 |sN p e m h h1 h2 h3=>exact⟨rfl,fun k hk=>by simp only[cellsOf,List.length_singleton,Nat.lt_one_iff] at hk;subst hk;exact⟨.sN p e m h h1 h2 h3,rfl⟩⟩
 |mp h=>exact⟨rfl,fun k hk=>by simp only[cellsOf,List.length_singleton,Nat.lt_one_iff] at hk;subst hk;exact⟨.mp h,rfl⟩⟩
 |mc h q hv=>subst hv;exact⟨rfl,fun k hk=>by simp only[cellsOf,List.length_singleton,Nat.lt_one_iff] at hk;subst hk;exact⟨.mc h q rfl,rfl⟩⟩
 | @op b cs v hh h0=>
  have hv: ∃p,v= .pointer p:=by
   cases b with
   |true=>cases hh rfl with|el a=>exact⟨_,rfl⟩
   |false=>exact⟨_,h0 rfl⟩
  obtain⟨p,rfl⟩:=hv;exact⟨rfl,fun k hk=>by simp only[cellsOf,List.length_singleton,Nat.lt_one_iff] at hk;subst hk;exact⟨.op hh h0,rfl⟩⟩
 |fm c cl es h1 h2 h3 h4=>exact⟨rfl,fun k hk=>by simp only[cellsOf,List.length_singleton,Nat.lt_one_iff] at hk;subst hk;exact⟨.fm c cl es h1 h2 h3 h4,rfl⟩⟩
 |xX h=>exact⟨rfl,fun k hk=>by simp only[cellsOf,List.length_singleton,Nat.lt_one_iff] at hk;subst hk;exact⟨.xX h,rfl⟩⟩
 |clo ff cc h1 h2 h3 h4=>exact⟨rfl,fun k hk=>by simp only[cellsOf,List.length_singleton,Nat.lt_one_iff] at hk;subst hk;exact⟨.clo ff cc h1 h2 h3 h4,rfl⟩⟩
def jE{α:Type}(cs:List α)(off:Nat)(vs:List α):List α:=cs.take off++(vs++cs.drop (off+vs.length))
theorem lq{α:Type}{cs vs:List α}{off:Nat}(h:off+vs.length<=cs.length):(jE cs off vs).length=cs.length:=by
 simp[jE];omega
theorem oN{α:Type}{cs vs:List α}{off k:Nat}{d:α}(h:off+vs.length<=cs.length):(jE cs off vs).getD k d=if off<=k/\k<off+vs.length then vs.getD (k-off) d else cs.getD k d:=by
 simp only[jE,List.getD_eq_getElem?_getD,List.getElem?_append,List.length_take,List.getElem?_take,List.getElem?_drop];by_cases h1:k<off
 ·rw[if_pos (by omega),if_pos h1,if_neg (by omega)]
 ·rw[if_neg (by omega)];have hm:min off cs.length=off:=by omega
  rw[hm];by_cases h2:k-off<vs.length
  ·rw[if_pos h2,if_pos (by omega)]
  ·rw[if_neg h2,if_neg (by omega)];congr 2;omega
theorem foldl_set(vs:Array Value)(off:Nat)(C:Array Value)(h:off+vs.size<=C.size):
  (vs.zipIdx.foldl (fun cs (c,j)=>cs.setIfInBounds (off+j) c) C).size=C.size/\∀k,(vs.zipIdx.foldl (fun cs (c,j)=>cs.setIfInBounds (off+j) c) C).getD k Go.undef=if off<=k/\k<off+vs.size then vs.getD (k-off) Go.undef else C.getD k Go.undef:=by
 have gen: ∀(l:List Value) (i:Nat) (C:Array Value),off+i+l.length<=C.size->
   ((l.zipIdx i).foldl (fun(cs:Array Value) (p:Value×Nat)=>cs.setIfInBounds (off+p.2) p.1) C).size=C.size/\∀k,((l.zipIdx i).foldl (fun(cs:Array Value) (p:Value×Nat)=>cs.setIfInBounds (off+p.2) p.1) C).getD k Go.undef=if off+i<=k/\k<off+i+l.length then l.getD (k-(off+i)) Go.undef else C.getD k Go.undef:=by
  intro l;induction l with
  |nil=>intro i C _;exact⟨rfl,fun k=>by rw[if_neg (by simp only[List.length_nil];omega)];rfl⟩
  |cons x l ih=>
   intro i C hC;simp only[List.zipIdx_cons,List.foldl_cons,List.length_cons] at hC⊢;obtain⟨h1,h2⟩:=ih (i+1) (C.setIfInBounds (off+i) x) (by simp;omega);refine⟨by rw[h1];simp,fun k=> ?_⟩;rw[h2,lH (w:=default) (j:=[]) (by omega)];by_cases hk:off+i=k
   ·subst hk;rw[if_neg (by omega),if_pos rfl,if_pos (by omega)];simp
   ·rw[if_neg hk];by_cases hk2:off+(i+1)<=k/\k<off+(i+1)+l.length
    ·rw[if_pos hk2,if_pos (by omega),show k-(off+i)=(k-(off+(i+1)))+1 by omega];simp
    ·rw[if_neg hk2,if_neg (by omega)]
 have:=gen vs.toList 0 C (by simpa using h);rw[←Array.foldl_toList];simp only[Array.toList_zipIdx,Nat.add_zero,Array.length_toList] at this⊢;refine⟨this.1,fun k=> ?_⟩;rw[this.2 k];simp[Array.getD_eq_getD_getElem?,List.getD_eq_getElem?_getD]
def JQ(places:List (Nat×Nat))(cells:List AV):List (Nat×AV)->Option (List AV)
 |[]=>some cells
 |(i,v)::rest=>match places[i]? with
  |some (off,size)=>if jD (cellsOf v)&&Nat.beq (cellsOf v).length size&&Nat.ble (off+size) cells.length then JQ places (jE cells off (cellsOf v)) rest else none
  |none=>none
theorem rP{w:World}{j:Js}{places:List (Nat×Nat)}{pl:Nat->Option (Nat×Nat)}(hp: ∀i x,places[i]? =some x->pl i=some x): ∀{parts:List (Nat×AV)} {vals:List (Nat×Value)} {cells r:List AV} {C:Array Value},
  C.size=cells.length->(∀k,k<cells.length->R w j (cells.getD k .undef) (C.getD k Go.undef))->parts.length=vals.length->(∀k,k<parts.length->(parts.getD k (0,.undef)).1=(vals.getD k (0,Go.undef)).1/\R w j (parts.getD k (0,.undef)).2 (vals.getD k (0,Go.undef)).2)->
  JQ places cells parts=some r->∃C',Instr.fill pl C vals=some C'/\C'.size=r.length/\r.length=cells.length/\∀k,k<r.length->R w j (r.getD k .undef) (C'.getD k Go.undef)
 |[],[],cells,r,C,h1,h2,_,_,h5=>by
  simp only[JQ,Option.some.injEq] at h5;subst h5;exact⟨C,rfl,h1,rfl,h2⟩
 |[],_::_,_,_,_,_,_,h3,_,_=>by simp at h3
 |_::_,[],_,_,_,_,_,h3,_,_=>by simp at h3
 |(i,v)::parts,(i',u)::vals,cells,r,C,h1,h2,h3,h4,h5=>by
  have h0:=h4 0 (by simp);simp at h0;obtain⟨rfl,hvu⟩:=h0;simp only[JQ] at h5;split at h5
  ·rename_i off size hpl;split at h5
   ·rename_i hc;simp only[Bool.and_eq_true,Nat.ble_eq] at hc;obtain⟨⟨hone,hsz⟩,hle⟩:=hc;have hsz:=Nat.eq_of_beq_eq_true hsz;subst hsz;obtain⟨hus,hur⟩:=AO hvu hone;have hf:=foldl_set u.cells off C (by omega);have hlen:=lq (cs:=cells) (vs:=cellsOf v) (off:=off) hle;obtain⟨C',g1,g2,g3,g4⟩:=rP (w:=w) (j:=j) hp (parts:=parts) (vals:=vals) (cells:=jE cells off (cellsOf v)) (r:=r) (C:=u.cells.zipIdx.foldl (fun cs (c,j)=>cs.setIfInBounds (off+j) c) C)
     (by rw[hf.1,hlen,h1]) (fun k hk=>by
      rw[hf.2,oN hle,hus];rw[hlen] at hk;split
      ·exact(hur _ (by omega)).1
      ·exact h2 k hk) (by simpa using h3) (fun k hk=>by have:=h4 (k+1) (by simpa using hk);simpa using this) h5
    refine⟨C',?_,g2,by rw[g3,hlen],g4⟩;simp only[Instr.fill,hp _ _ hpl];rw[if_neg (by simp;omega)];exact g1
   ·simp at h5
  ·simp at h5
def bH(P:Program)(t:TypeId):Option (List (Nat×Nat)×List Value):=
 match P.info? t with
 |some i=>match i.zero with
  |some z=>match P.underlying t with
   |some (.struct fs)=>match fs.toList.mapM (fun f=>(P.info? f.type).map fun i=>(f.offset,i.size)) with
    |some ps=>some (ps,z.cells.toList)
    |none=>none
   |some (.array n e)=>match P.info? e with
    |some ie=>some ((List.range n).map fun k=>(k*ie.size,ie.size),z.cells.toList)
    |none=>none
   |_=>none
  |none=>none
 |none=>none
theorem JA{P:Program}{w:World} : ∀{fs:List Field} {ps:List (Nat×Nat)},fs.mapM (fun f=>(P.info? f.type).map fun i=>(f.offset,i.size))=some ps->(fs.mapM (fun f=>do pure (f.offset,←Go.sizeOf f.type):Field->Sem (Nat×Nat))).run P w= .ok ps w
 |[],ps,h=>by simp at h;subst h;simp
 |f::fs,ps,h=>by
  rw[List.mapM_cons] at h;cases hi:P.info? f.type with
  |none=>simp[hi] at h
  |some i=>
   cases hq:fs.mapM (fun f=>(P.info? f.type).map fun i=>(f.offset,i.size)) with
   |none=>simp[hi,hq] at h
   |some qs=>
   simp[hi,hq] at h;subst h;have hsz:(do pure (f.offset,←Go.sizeOf f.type):Sem (Nat×Nat)).run P w= .ok (f.offset,i.size) w:=by simp[Go.sizeOf,typeInfo,hi]
   rw[List.mapM_cons,Sem.run_bind,hsz];simp only[Result.andThen_ok,Sem.run_bind,JA hq,Sem.run_pure]
def VP(P:Program)(t:TypeId)(parts:List (Nat×AV))(K:AV->Prop):Prop:=
 match bH P t with
 |some (ps,z)=>(match JQ ps (z.map fun v=> .d (.v v)) parts with
  |some r=>K (.agg r)
  |none=>False)
 |none=>False
theorem build_run{P:Program}{t:TypeId}{w:World}{j:Js}{parts:List (Nat×AV)}{vals:List (Nat×Value)}(h3:parts.length=vals.length)(h4: ∀k,k<parts.length->(parts.getD k (0,.undef)).1=(vals.getD k (0,Go.undef)).1/\R w j (parts.getD k (0,.undef)).2 (vals.getD k (0,Go.undef)).2)
  {ps:List (Nat×Nat)} {z:List Value} (hp:bH P t=some (ps,z)) {r:List AV} (hr:JQ ps (z.map fun v=> .d (.v v)) parts=some r):
  ∃v,(Instr.build t vals.toArray).run P w= .ok v w/\R w j (.agg r) v:=by
 unfold bH at hp;split at hp
 ·rename_i i hi;split at hp
  ·rename_i zz hz;have hzc: ∀(C:Array Value),C.toList=z->C.size=(z.map fun v=>AV.d (.v v)).length/\∀k,k<(z.map fun v=>AV.d (.v v)).length->R w j ((z.map fun v=>AV.d (.v v)).getD k .undef) (C.getD k Go.undef):=by
    intro C hC;subst hC;refine⟨by simp,fun k hk=> ?_⟩;simp only[List.length_map,Array.length_toList] at hk;have h1:(C.toList.map fun c=>AV.d (.v c)).getD k .undef=AV.d (.v (C.getD k Go.undef)):=by
     simp[List.getD_eq_getElem?_getD,hk,Array.getD_eq_getD_getElem?]
    rw[h1];exact .d (.v _)
   split at hp
   ·rename_i fs hu;split at hp
    ·rename_i qs hq;simp only[Option.some.injEq,Prod.mk.injEq] at hp;obtain⟨rfl,hz2⟩:=hp;obtain⟨g1,g2⟩:=hzc zz.cells hz2;obtain⟨C',f1,f2,f3,f4⟩:=rP (w:=w) (j:=j) (places:=qs) (pl:=(qs.toArray[·]?)) (fun i x hx=>by simpa using hx) g1 g2 h3 h4 hr;refine⟨.agg C',?_,.agg C' f2 f4⟩;have hm:(fs.mapM (fun f=>do pure (f.offset,←Go.sizeOf f.type):Field->Sem (Nat×Nat))).run P w= .ok qs.toArray w:=by
      rw[←Array.toArray_toList (xs:=fs),List.mapM_toArray,Sem.run_map,JA hq];rfl
     unfold Instr.build;simp only[Sem.run_bind,zeroValue,typeInfo,run_program,Result.andThen_ok,hi,hz,Sem.run_pure,underlying,hu,hm,f1]
    ·simp at hp
   ·rename_i n e hu;split at hp
    ·rename_i ie hie;simp only[Option.some.injEq,Prod.mk.injEq] at hp;obtain⟨rfl,hz2⟩:=hp;obtain⟨g1,g2⟩:=hzc zz.cells hz2;obtain⟨C',f1,f2,f3,f4⟩:=rP (w:=w) (j:=j) (pl:=fun i=>some (i*ie.size,ie.size)) (fun i x hx=>by
      simp only[List.getElem?_map,Option.map_eq_some_iff] at hx;obtain⟨q,hq,rfl⟩:=hx;have:=List.getElem?_eq_some_iff.1 hq;obtain⟨hlt,he⟩:=this;simp at he;rw[he]) g1 g2 h3 h4 hr
     refine⟨.agg C',?_,.agg C' f2 f4⟩;unfold Instr.build;simp only[Sem.run_bind,zeroValue,typeInfo,run_program,Result.andThen_ok,hi,hz,Sem.run_pure,underlying,hu,Go.sizeOf,hie,f1]
    ·simp at hp
   ·simp at hp
  ·simp at hp
 ·simp at hp
def uy(g:Bool)(s:St):List (Nat×Operand)->(List (Nat×AV)->Prop)->Prop
 |[],K=>K []
 |(i,x)::xs,K=>arg g s x fun a=>uy g s xs fun CJ=>K ((i,a)::CJ)
theorem mW{g:Bool}{s:St} : ∀{xs:List (Nat×Operand)} {K:List (Nat×AV)->Prop},uy g s xs K->∃ps,K ps/\ps.length=xs.length/\∀k,k<xs.length->(ps.getD k (0,.undef)).1=(xs.getD k (0,.const Go.undef)).1/\Arg g s (xs.getD k (0,.const Go.undef)).2 (ps.getD k (0,.undef)).2
 |[],K,h=>⟨[],h,rfl,by simp⟩
 |(i,x)::xs,K,h=>by
  obtain⟨av,h1,h2⟩:=aB h;obtain⟨avs,h3,h4,h5⟩:=mW h1;refine⟨(i,av)::avs,h3,by simp[h4],fun k hk=> ?_⟩;cases k with
  |zero=>exact⟨by simp,by simpa using h2⟩
  |succ k=>simpa using h5 k (by simpa using hk)
theorem Y8{P:Program}{g:Bool}{s:St}{t:TypeId}{ps:Array (Nat×Operand)}{K:AV->Prop}(h:uy g s ps.toList fun parts=>VP P t parts K): ∃av,K av/\Bz P g s (.build t ps) av:=by
 obtain⟨parts,h,hl,hp⟩:=mW h;unfold VP at h;split at h
 ·rename_i pl z hpl;split at h
  ·rename_i r hr;refine⟨_,h,fun hg j0 j a w o ho hrel=> ?_⟩;obtain⟨v,h1,h2⟩:=build_run (P:=P) (w:=w) (j:=j) (t:=t) (parts:=parts) (vals:=ps.toList.map fun p=>(p.1,a.eval p.2)) (by simpa using hl) (fun k hk=>by
    have hk':k<ps.toList.length:=by rw[←hl];exact hk
    have:=hp k hk';have e:(ps.toList.map fun p=>(p.1,a.eval p.2)).getD k (0,Go.undef)=((ps.toList.getD k (0,.const Go.undef)).1,a.eval (ps.toList.getD k (0,.const Go.undef)).2):=by
     have hk2:k<ps.size:=by simpa using hk'
     simp[List.getD_eq_getElem?_getD,hk2]
    rw[e];exact⟨this.1,this.2 hg j0 j a w hrel⟩) hpl hr
   refine⟨v,?_,h2⟩;have e:(ps.toList.map fun p=>(p.1,a.eval p.2)).toArray=ps.map fun(i,x)=>(i,a.eval x):=by
    apply Array.ext';simp
   rw[e] at h1;simp only[execOp,ho];exact gW h1
  ·exact h.elim
 ·exact h.elim
theorem EM(av:AV):av.avoids []=true:=by
 induction av using AV.rec (motive_2:=fun l=>dK [] l=true)<;>simp_all [AV.avoids,dK]
theorem R.kM{j j':Js}{w w':World}(he:Ev j w j' w')(hl: ∀b cb:Nat,j[b]? =some (some cb)->cb<w.heap.size)(hag:Ag j j' []){av:AV}{v:Value}(h:R w j av v):R w' j' av v:=
 h.mono he hl hag (EM av)
theorem zV(X:List Nat)(av:AV):av.free=true->av.avoids X=true:=by
 induction av using AV.rec (motive_2:=fun l=>vP l=true->dK X l=true) with
 |iff b x ih=>intro h;cases b with
  |false=>rfl
  |true=>simpa[AV.avoids] using ih (by simpa[AV.free] using h)
 |agg cs ih=>intro h;exact ih h
 |eX cs ih=>intro h;exact ih h
 |clo fn fs cs ih1 ih2=>
  intro h;simp only[AV.free,Bool.and_eq_true] at h;simp only[AV.avoids,ih1 h.1,ih2 h.2];rfl
 |cons x xs ih1 ih2=>
  rename_i h;simp only[vP,Bool.and_eq_true] at h;simp only[dK,ih1 h.1,ih2 h.2];rfl
 |nil=>rfl
 |ptr b o=>intro h;cases h
 |pe b s i k=>intro h;cases h
 |ms b s l n=>intro h;cases h
 |mc b s l n c=>intro h;cases h
 |mp b=>intro h;cases h
 |xX b=>intro h;cases h
 |_=>intro _;rfl
theorem R.vO{j j':Js}{w w':World}(he:Ev j w j' w')(hl: ∀b cb:Nat,j[b]? =some (some cb)->cb<w.heap.size){av:AV}{v:Value}(h:R w j av v)(hf:av.free=true):R w' j' av v:=
 h.mono he hl (X:=List.range j.length) (fun b hb hn=>absurd (List.mem_range.2 hb) hn) (zV _ av hf)
theorem ji.mono{j j':Js}{w w':World}(he:Ev j w j' w')(hl: ∀b cb:Nat,j[b]? =some (some cb)->cb<w.heap.size){es:Array MapEntry}{cl:Nat}{d:Bool}{ks:List Key}{f:Key->AV}(h:ji w j es cl d ks f):ji w' j' es cl d ks f:=
 ⟨h.stamped,h.keys,h.kind,h.free,fun e hm k hk=>(h.rel e hm k hk).vO he hl (h.free k)⟩
theorem sJ.mono{j j':Js}{w w':World}(he:Ev j w j' w')(hl: ∀b cb:Nat,j[b]? =some (some cb)->cb<w.heap.size){mb:Nat}{es:Array MapEntry}{cl:Nat}{seen:Array Nat}{left:List Key}{cur:Option Key}{f:Key->AV}(h:sJ w j mb es cl seen left cur f):sJ w' j' mb es cl seen left cur f:=
 ⟨Nat.lt_of_lt_of_le h.lt he.size,fun hm=>h.own (he.sub _ h.lt hm),by rw[he.keep _ h.lt h.own];exact h.heap,h.stamped,h.keys,h.cur,h.free,fun e hm k hk=>(h.rel e hm k hk).vO he hl (h.free k)⟩
theorem RB.mono{j j':Js}{w w':World}(he:Ev j w j' w')(hl: ∀b cb:Nat,j[b]? =some (some cb)->cb<w.heap.size)(hag:Ag j j' []){x:aC}{o:Option Nat}(h:RB w j x o)(ho: ∀cb,o=some cb->w'.heap[cb]? =w.heap[cb]?):RB w' j' x o:=by
 cases x with
 |dead=>trivial
 |loc c=>
  obtain⟨h1,h2,h3,m,h4⟩:=h;exact⟨h1,Nat.lt_of_lt_of_le h2 he.size,fun hm=>h3 (he.sub _ h2 hm),m,(xK (a:=⟨c,0,none⟩) (he.keep c h2 h3)).trans h4⟩
 |tab c vs=>
  obtain⟨h1,h2,h3,e,h4,h5⟩:=h;exact⟨h1,Nat.lt_of_lt_of_le h2 he.size,fun hm=>h3 (he.sub _ h2 hm),e,(he.Xa c h2).trans h4,fun i=>(xK (a:=⟨c,i,none⟩) (he.keep c h2 h3)).trans (h5 i)⟩
 |var cs=>
  cases o with
  |none=>exact h
  |some cb=>
   obtain⟨C,e,h1,h2,h3⟩:=h;exact⟨C,e,by rw[ho cb rfl,h1],h2,fun k hk=>(h3 k hk).kM he hl hag⟩
 |arr sz n row=>
  cases o with
  |none=>exact h
  |some cb=>
   obtain⟨C,e,h1,h2,h3⟩:=h;exact⟨C,e,h1.at (ho cb rfl),h2,fun i hi=>⟨(h3 i hi).1,fun k hk=>((h3 i hi).2 k hk).mono he⟩⟩
 |lp L st pd=>
  cases o with
  |none=>exact h
  |some cb=>
   obtain⟨r,h1,h2,h3,h4⟩:=h;exact⟨r,by rw[ho cb rfl,h1],h2,h3,fun k av hk=>⟨(h4 k av hk).1,(h4 k av hk).2.kM he hl hag⟩⟩
 |mp d ks f=>
  cases o with
  |none=>exact h
  |some cb=>
   obtain⟨es,cl,h1,h2⟩:=h;exact⟨es,cl,by rw[ho cb rfl,h1],h2.mono he hl⟩
 |QH d ks f κ q=>
  cases o with
  |none=>exact h
  |some cb=>
   obtain⟨es,cl,h1,h2,hx⟩:=h;exact⟨es,cl,by rw[ho cb rfl,h1],h2.mono he hl,hx⟩
 |it left cur f=>
  cases o with
  |none=>exact h
  |some cb=>
   obtain⟨mb,es,cl,seen,h1,h2⟩:=h;exact⟨mb,es,cl,seen,by rw[ho cb rfl,h1],h2.mono he hl⟩
theorem bV(w:World)(o:Obj){i:Nat}(h:i<w.heap.size):(w.alloc o).heap[i]? =w.heap[i]? :=by
 show(w.heap.push o)[i]? =_
 rw[Array.getElem?_push,if_neg (by omega)]
theorem vV(j j':Js)(w:World)(ob:Obj)(hj: ∀b,b<w.heap.size->some b∈j'->some b∈j):Ev j w j' (w.alloc ob) where
 size:=by simp
 keep b hb _:=bV w _ hb
 sub:=hj
 Xa b hb:=by simp[World.shape?,bV w _ hb]
 uN a ha:=by simp[World.frozen?,bV w _ ha]
 os:=rfl
 tape:=rfl
 output:=rfl
 lps b r hb:=⟨r,by rw[bV w _ (Array.getElem?_eq_some_iff.1 hb).1];exact hb⟩
theorem pq(j j':Js)(w:World)(C:Array Value)(t:TypeId)(hj: ∀b,b<w.heap.size->some b∈j'->some b∈j):Ev j w j' (w.alloc (.cells C t)):=vV j j' w _ hj
theorem bZ(j:Js)(o:Option Nat):Ag j (j++[o]) []:=by
 intro b hb _;rw[List.getElem?_append_left hb]
theorem aS.allocN{w:World}{j:Js}{σ:List aC}(h:aS w j σ)(ob:Obj)(x:aC)
  (hx:RB (w.alloc ob) (j++[some w.heap.size]) x (some w.heap.size)):
  aS (w.alloc ob) (j++[some w.heap.size]) (σ++[x])/\Ev j w (j++[some w.heap.size]) (w.alloc ob):=by
 have he:Ev j w (j++[some w.heap.size]) (w.alloc ob):=vV _ _ _ _ (fun b hb hm=>by
  simp at hm;rcases hm with hm|hm
  ·exact hm
  ·omega)
 refine⟨⟨by simp[h.len],fun b cb hb=> ?_,fun b b' cb hb hb'=> ?_,fun b y hy=> ?_⟩,he⟩
 ·rw[List.getElem?_append] at hb;split at hb
  ·have:=h.lt b cb hb;simp;omega
  ·rw[List.getElem?_singleton] at hb;split at hb<;>simp at hb;simp;omega
 ·have key: ∀q:Nat,(j++[some w.heap.size])[q]? =some (some cb)->(j[q]? =some (some cb)/\cb<w.heap.size)\/(q=j.length/\cb=w.heap.size):=by
   intro q hq;rw[List.getElem?_append] at hq;split at hq
   ·exact .inl ⟨hq,h.lt q cb hq⟩
   ·rw[List.getElem?_singleton] at hq;split at hq<;>simp at hq;exact .inr ⟨by omega,hq.symm⟩
  rcases key b hb with h1|h1<;>rcases key b' hb' with h2|h2
  ·exact h.inj b b' cb h1.1 h2.1
  ·omega
  ·omega
  ·omega
 ·rw[List.getElem?_append] at hy;split at hy
  ·obtain⟨o,ho,hB⟩:=h.blk b y hy;have hbl:b<j.length:=by rw[h.len];assumption
   refine⟨o,by rw[List.getElem?_append_left hbl];exact ho,hB.mono he h.lt (bZ _ _) fun cb hcb=> ?_⟩;subst hcb;exact bV w _ (h.lt b cb ho)
  ·rw[List.getElem?_singleton] at hy;split at hy<;>simp at hy;subst hy;refine⟨some w.heap.size,?_,hx⟩;rw[List.getElem?_append_right (by rw[h.len];omega),List.getElem?_singleton,if_pos (by rw[h.len];omega)]
theorem aS.alloc{w:World}{j:Js}{σ:List aC}(h:aS w j σ)(C:Array Value)(t:TypeId)(x:aC)
  (hx:RB (w.alloc (.cells C t)) (j++[some w.heap.size]) x (some w.heap.size)):
  aS (w.alloc (.cells C t)) (j++[some w.heap.size]) (σ++[x])/\Ev j w (j++[some w.heap.size]) (w.alloc (.cells C t)):=h.allocN _ x hx
def St.newVar(s:St)(cs:List AV):St:= { s with σ:=s.σ++[.var cs] }
theorem Rel.newVar{j0:J0}{j:Js}{s:St}{a:Act}{w:World}(h:Rel j0 s j a w)(C:Array Value)(t:TypeId){cs:List AV}(hs:C.size=cs.length)(hc: ∀k,k<cs.length->R w j (cs.getD k .undef) (C.getD k Go.undef)):
  Rel j0 (s.newVar cs) (j++[some w.heap.size]) a (w.alloc (.cells C t))/\Ev j w (j++[some w.heap.size]) (w.alloc (.cells C t))/\R (w.alloc (.cells C t)) (j++[some w.heap.size]) (.ptr s.σ.length 0) (.pointer (some ⟨w.heap.size,0,none⟩)):=by
 have he:Ev j w (j++[some w.heap.size]) (w.alloc (.cells C t)):=pq _ _ _ _ _ (fun b hb hm=>by
  simp at hm;rcases hm with hm|hm
  ·exact hm
  ·omega)
 obtain⟨h1,h2⟩:=h.cZ.alloc C t (.var cs) ⟨C,t,heap_alloc_new w _,hs,fun k hk=>(hc k hk).kM he h.cZ.lt (bZ _ _)⟩;refine⟨?_,h2,.ptr ?_⟩
 ·have:=h.after h2 h1 (by simp) (bZ _ _);exact this
 ·rw[List.getElem?_append_right (by rw[h.cZ.len];omega)];simp[h.cZ.len]
def V7:List AV->Option (List D)
 |[]=>some []
 | .d x::xs=>(V7 xs).map (x:: ·)
 | .clo fn [] []::xs=>(V7 xs).map (.v (.func fn #[] #[]):: ·)
 |_=>none
theorem R_clo0{w:World}{j:Js}{fn:Fn}{v:Value}(h:R w j (.clo fn [] []) v):v= .func fn #[] #[]:=by
 cases h with
 |clo ff cc h1 h2 h3 h4=>
  have e1:ff= #[]:=Array.eq_empty_of_size_eq_zero h1;have e2:cc= #[]:=Array.eq_empty_of_size_eq_zero h2;rw[e1,e2]
theorem I9: ∀{vs:List AV} {ds:List D},V7 vs=some ds->ds.length=vs.length/\∀{w:World} {j:Js} {k:Nat} {v:Value},k<vs.length->R w j (vs.getD k .undef) v->RD w j (ds.getD k default) v:=by
 intro vs;induction vs with
 |nil=>intro ds h;simp[V7] at h;subst h;simp
 |cons x xs ih=>
  intro ds h;have main: ∀(d:D),(∀{w:World} {j:Js} {v:Value},R w j x v->RD w j d v)->(V7 xs).map (d:: ·)=some ds->ds.length=(x::xs).length/\∀{w:World} {j:Js} {k:Nat} {v:Value},k<(x::xs).length->R w j ((x::xs).getD k .undef) v->RD w j (ds.getD k default) v:=by
   intro d hd h;simp only[Option.map_eq_some_iff] at h;obtain⟨ys,h1,h2⟩:=h;subst h2;obtain⟨h3,h4⟩:=ih h1;refine⟨by simp[h3],fun {w j k v} hk hr=> ?_⟩;cases k with
   |zero=>exact hd (by simpa using hr)
   |succ k=>exact h4 (by simpa using hk) (by simpa using hr)
  unfold V7 at h;split at h
  ·rename_i he;cases he
  ·rename_i he;cases he;exact main _ (fun hr=>by cases hr with|d h=>exact h) h
  ·rename_i he;cases he;exact main _ (fun hr=>by rw[R_clo0 hr];exact .v _) h
  ·simp at h
def kV(σ:List aC)(p:AV)(vs:List AV):Option (Prop×List aC):=
 match p with
 | .ptr b off=>match σ[b]? with
  |some (.var cs)=>if Nat.ble (off+vs.length) cs.length then some (True,σ.set b (.var (jE cs off vs))) else none
  |_=>none
 | .pe b sz i k=>match σ[b]? with
  |some (.arr sz' n row)=>if Nat.beq sz sz'&&Nat.ble (k+vs.length) sz then(match V7 vs with
   |some ds=>some (i<n,σ.set b (.arr sz n fun q=>if q=i then jE (row i) k ds else row q))
   |none=>none) else none
  |_=>none
 |_=>none
theorem wK{w:World}{g:Nat}{C C':Array Value}{e:TypeId}{f:Nat×Nat}(hg:w.heap[g]? =some (.cells C e f))(hs:C'.size=C.size)(b:Nat):(w.setRow g C').shape? b=w.shape? b:=by
 by_cases h:b=g
 ·subst h;simp[World.shape?,setRow_heap w b C C' e f hg,hg,hs]
 ·simp[World.shape?,setRow_other w g b C' h]
theorem QS{w:World}{g:Nat}{C C':Array Value}{e:TypeId}{f:Nat×Nat}(hg:w.heap[g]? =some (.cells C e f))(a:Addr):(w.setRow g C').frozen? a=w.frozen? a:=by
 by_cases h:a.block=g
 ·subst h;simp[World.frozen?,setRow_heap w _ C C' e f hg,hg]
 ·simp[World.frozen?,setRow_other w g a.block C' h]
theorem qN{j:Js}{w:World}{g:Nat}{C C':Array Value}{e:TypeId}{f:Nat×Nat}(hg:w.heap[g]? =some (.cells C e f))(hs:C'.size=C.size)(hj:some g∈j):Ev j w j (w.setRow g C') where
 size:=by simp
 keep b _ hn:=setRow_other w g b C' (fun he=>hn (he▸hj))
 sub _ _ h:=h
 Xa b _:=wK hg hs b
 uN a _:=QS hg a
 os:=rfl
 tape:=rfl
 output:=rfl
 lps b r hb:=⟨r,by rw[setRow_other w g b C' (fun he=>by subst he;rw[hg] at hb;cases hb)];exact hb⟩
theorem jP{P:Program}(g o:Nat)(t:TypeId)(f:Nat×Nat): ∀(vs:List Value) (i:Nat) (cur:Array Value) (w:World),w.heap[g]? =some (.cells cur t f)->(cur.size<=f.1\/f=(0,0))->o+i+vs.length<=cur.size->(∀v∈vs,v.oneCell'=true)->
  (storeCells ⟨g,o,none⟩ vs i).run P w= .ok () (w.setRow g (cur.toList.take (o+i)++vs++cur.toList.drop (o+i+vs.length)).toArray)
 |[],i,cur,w,hg,_,_,_=>by
  simp only[storeCells,List.append_nil,List.length_nil,Nat.add_zero,List.take_append_drop,Array.toArray_toList];rw[setRow_self w g cur t f hg];rfl
 |v::rest,i,cur,w,hg,hf,hl,h1=>by
  have hi:o+i<cur.size:=by simp at hl;omega
  have hadd:(⟨g,o,none⟩:Addr).add i=⟨g,o+i,none⟩:=by unfold Addr.add;split<;>simp_all
  have hcell:w.cell? ⟨g,o+i,none⟩=some cur[o+i]:=by simp[World.cell?,hg,hi]
  have hfro:w.frozen? ⟨g,o+i,none⟩=false:=by
   obtain⟨lo,hi'⟩:=f;simp only[World.frozen?,hg,Bool.and_eq_false_iff,decide_eq_false_iff_not];rcases hf with hf|hf
   ·left;simp only at hf;omega
   ·simp only[Prod.mk.injEq] at hf;right;omega
  have hst:(store ((⟨g,o,none⟩:Addr).add i) v).run P w= .ok () (w.setRow g (cur.setIfInBounds (o+i) v)):=by
   rw[hadd,run_store P w _ v _ (h1 v (by simp)),hcell];simp[hfro,setCell_eq_setRow w g (o+i) cur t f v hg]
  have hrest:=jP (P:=P) g o t f rest (i+1) (cur.setIfInBounds (o+i) v) (w.setRow g (cur.setIfInBounds (o+i) v)) (setRow_heap w g cur _ t _ hg) (by simpa using hf) (by simp at hl⊢;omega) (fun x hx=>h1 x (by simp[hx]));simp only[storeCells,Sem.run_bind,hst,Result.andThen_ok,hrest,setRow_setRow];congr 3
  have hstep:=list_seg_step cur.toList (o+i) v rest (by simp at hl⊢;omega);simpa[Array.toList_setIfInBounds,Nat.add_assoc] using hstep
theorem aS.setRow{w:World}{j:Js}{σ:List aC}(h:aS w j σ){b g:Nat}(hb:j[b]? =some (some g)){C C':Array Value}{e:TypeId}{f:Nat×Nat}(hg:w.heap[g]? =some (.cells C e f))(hs:C'.size=C.size){x:aC}
  (hx:RB (w.setRow g C') j x (some g)):aS (w.setRow g C') j (σ.set b x)/\Ev j w j (w.setRow g C'):=by
 have he:Ev j w j (w.setRow g C'):=qN hg hs (List.mem_of_getElem? hb);refine⟨⟨by simp[h.len],fun b cb hb=>by have:=h.lt b cb hb;simpa using this,h.inj,fun b' y hy=> ?_⟩,he⟩;rw[List.getElem?_set] at hy;split at hy
 ·rename_i hbb;split at hy<;>simp at hy;subst hbb hy;exact⟨_,hb,hx⟩
 ·rename_i hbb;obtain⟨o,ho,hB⟩:=h.blk b' y hy;refine⟨o,ho,hB.mono he h.lt (.refl _ _) fun cb hcb=> ?_⟩;subst hcb;exact setRow_other w g cb C' (fun hc=>hbb (h.inj b b' g hb (hc▸ho)))
theorem oU{C:Array Value}{vs:List Value}{off k:Nat}(h:off+vs.length<=C.size):((C.toList.take off++vs++C.toList.drop (off+vs.length)).toArray).getD k Go.undef=if off<=k/\k<off+vs.length then vs.getD (k-off) Go.undef else C.getD k Go.undef:=by
 have:=oN (cs:=C.toList) (vs:=vs) (off:=off) (k:=k) (d:=Go.undef) (by simpa using h);simp only[jE] at this;rw[←List.append_assoc] at this;rw[Array.getD_eq_getD_getElem?,List.getElem?_toArray,←List.getD_eq_getElem?_getD,this];simp[List.getD_eq_getElem?_getD,Array.getD_eq_getD_getElem?]
theorem yX{P:Program}{w:World}{j:Js}{σ:List aC}(hS:aS w j σ){t:TypeId}{agg:Bool}{m:Nat}(ht:gQ P t=some (agg,m)){p v:AV}{pv vv:Value}(hp:R w j p pv)(hv:R w j v vv)(hone:jD (cellsOf v)=true)(hlen:(cellsOf v).length=m)
  {side:Prop} {σ':List aC} (hst:kV σ p (cellsOf v)=some (side,σ')) (hside:side):
  ∃w',(Instr.storeAt t pv vv).run P w= .ok () w'/\aS w' j σ'/\Ev j w j w':=by
 obtain⟨hcs,hcr⟩:=AO hv hone;have hone': ∀u∈vv.cells.toList,u.oneCell'=true:=by
  intro u hu;obtain⟨k,hk,rfl⟩:=List.getElem_of_mem hu;simp only[Array.length_toList] at hk;have:=(hcr k (by omega)).2;simpa[Array.getD_eq_getD_getElem?,hk] using this
 have hrun: ∀(g o:Nat) (C:Array Value) (e:TypeId) (f:Nat×Nat),w.heap[g]? =some (.cells C e f)->(C.size<=f.1\/f=(0,0))->o+m<=C.size->pv= .pointer (some ⟨g,o,none⟩)->
   (Instr.storeAt t pv vv).run P w= .ok () (w.setRow g (C.toList.take o++vv.cells.toList++C.toList.drop (o+vv.cells.toList.length)).toArray):=by
  intro g o C e f hg hf ho hpv;have h1:=jP (P:=P) g o e f vv.cells.toList 0 C w hg hf (by simp;omega) hone';simp only[Nat.add_zero] at h1;rw[hpv];have h2: ¬(vv.cells.size≠m):=by omega
  unfold Instr.storeAt;simp only[Instr.sureAddr,Sem.run_bind,Sem.run_pure,Result.andThen_ok];unfold storeVar;simp only[Sem.run_bind,wG ht,Result.andThen_ok,h2,if_false,h1]
 have hsz: ∀(o:Nat) (C:Array Value),o+m<=C.size->(C.toList.take o++vv.cells.toList++C.toList.drop (o+vv.cells.toList.length)).toArray.size=C.size:=by
  intro o C ho;simp;omega
 have hval: ∀(o:Nat) (C:Array Value) (k:Nat),o+m<=C.size->((C.toList.take o++vv.cells.toList++C.toList.drop (o+vv.cells.toList.length)).toArray).getD k Go.undef=if o<=k/\k<o+m then vv.cells.getD (k-o) Go.undef else C.getD k Go.undef:=by
  intro o C k ho;rw[oU (by simp;omega)];simp only[Array.length_toList,hcs,hlen];split
  ·simp[Array.getD_eq_getD_getElem?,List.getD_eq_getElem?_getD]
  ·rfl
 unfold kV at hst;split at hst
 ·rename_i b off;split at hst
  ·rename_i cs hb;split at hst
   ·rename_i hle;simp only[Option.some.injEq,Prod.mk.injEq] at hst;obtain⟨rfl,rfl⟩:=hst;simp only[Nat.ble_eq] at hle;cases hp with
    | @ptr _ _ g hj=>
    obtain⟨o,ho,hB⟩:=hS.blk b _ hb;rw[hj] at ho;cases ho
    obtain⟨C,e,hC,hCs,Gn⟩:=hB;refine⟨_,hrun g off C e (0,0) hC (.inr rfl) (by omega) rfl,?_⟩;have he:=qN (j:=j) hC (hsz off C (by omega)) (List.mem_of_getElem? hj);refine hS.setRow hj hC (hsz off C (by omega)) ⟨_,e,setRow_heap w g C _ e (0,0) hC,?_,fun k hk=> ?_⟩
    ·rw[hsz off C (by omega),lq (by omega),hCs]
    ·rw[lq (by omega)] at hk;rw[hval off C k (by omega),oN (by omega),hlen];split
     ·exact((hcr _ (by omega)).1).kM he hS.lt (.refl _ _)
     ·exact(Gn k hk).kM he hS.lt (.refl _ _)
   ·simp at hst
  ·simp at hst
 ·rename_i b sz i k;split at hst
  ·rename_i sz' n row hb;split at hst
   ·rename_i hle;split at hst;case h_2=>simp at hst
    rename_i ds hds;obtain⟨hdl0,hds⟩:=I9 hds;have hdl:ds.length=m:=by rw[←hlen,hdl0]
    have hcr': ∀k,k<m->RD w j (ds.getD k default) (vv.cells.getD k Go.undef):=by
     intro k hk;exact hds (by omega) (hcr k (by omega)).1
    simp only[Option.some.injEq,Prod.mk.injEq] at hst;obtain⟨rfl,rfl⟩:=hst;simp only[Bool.and_eq_true,Nat.ble_eq] at hle;have hsz':=Nat.eq_of_beq_eq_true hle.1;subst hsz';cases hp with
    | @pe _ _ _ _ g hj=>
    obtain⟨o,ho,hB⟩:=hS.blk b _ hb;rw[hj] at ho;cases ho
    obtain⟨C,e,⟨f,hC,hf'⟩,hCs,Gn⟩:=hB;have hf:=Or.imp_left And.left hf';have hbound:i*sz+sz<=n*sz:=by
     have:(i+1)*sz<=n*sz:=Nat.mul_le_mul_right _ hside;rwa [Nat.succ_mul] at this
    have hfit:i*sz+k+m<=C.size:=by omega
    refine⟨_,hrun g (i*sz+k) C e f hC hf hfit rfl,?_⟩;have he:=qN (j:=j) hC (hsz (i*sz+k) C hfit) (List.mem_of_getElem? hj);refine hS.setRow hj hC (hsz _ C hfit) ⟨_,e,⟨f,setRow_heap w g C _ e f hC,by rw[hsz _ C hfit];exact hf'⟩,?_,fun q hq=> ?_⟩
    ·rw[hsz _ C hfit];exact hCs
    ·have hrow:=Gn q hq;by_cases hqi:q=i
     ·subst hqi;simp only[if_true];refine⟨by rw[lq (by omega)];exact hrow.1,fun c hc=> ?_⟩;rw[hval _ C _ hfit,oN (by omega),hdl];by_cases hin:k<=c/\c<k+m
      ·rw[if_pos hin,if_pos (by omega),show q*sz+c-(q*sz+k)=c-k by omega];exact(hcr' _ (by omega)).mono he
      ·rw[if_neg hin,if_neg (by omega)];exact(hrow.2 c hc).mono he
     ·simp only[hqi,if_false];refine⟨hrow.1,fun c hc=> ?_⟩;have hout: ¬(i*sz+k<=q*sz+c/\q*sz+c<i*sz+k+m):=by
       rcases Nat.lt_or_gt_of_ne hqi with hlt|hlt
       ·have:(q+1)*sz<=i*sz:=Nat.mul_le_mul_right _ hlt;rw[Nat.succ_mul] at this;omega
       ·have:(i+1)*sz<=q*sz:=Nat.mul_le_mul_right _ hlt;rw[Nat.succ_mul] at this;omega
      rw[hval _ C _ hfit,if_neg hout];exact(hrow.2 c hc).mono he
   ·simp at hst
  ·simp at hst
 ·simp at hst
def yZ(P:Program)(t:TypeId):Option (TypeId×Nat×Nat×List Value):=
 match P.underlying t with
 |some (.slice e)=>match P.info? e with
  |some i=>match i.zero with
   |some z=>if Nat.beq z.cells.size i.size then some (e,i.size,i.bytes,z.cells.toList) else none
   |none=>none
  |none=>none
 |_=>none
theorem oQ{P:Program}{t e:TypeId}{sz bytes:Nat}{z:List Value}(h:yZ P t=some (e,sz,bytes,z)):
  P.underlying t=some (.slice e)/\∃i zz,P.info? e=some i/\i.zero=some zz/\i.size=sz/\i.bytes=bytes/\zz.cells.toList=z/\zz.cells.size=sz:=by
 unfold yZ at h;split at h
 ·rename_i e' hu;split at h
  ·rename_i i hi;split at h
   ·rename_i zz hz;split at h
    ·rename_i hb;simp only[Option.some.injEq,Prod.mk.injEq] at h;obtain⟨rfl,rfl,rfl,rfl⟩:=h;exact⟨hu,i,zz,hi,hz,rfl,rfl,rfl,Nat.eq_of_beq_eq_true hb⟩
    ·simp at h
   ·simp at h
  ·simp at h
 ·simp at h
def oneD:D->Bool
 | .v x=>x.oneCell'
 | .sl _ _ _ _=>true
def oO:List D->Bool
 |[]=>true
 |x::xs=>oneD x&&oO xs
theorem oneD_cell{w:World}{j:Js}{x:D}{v:Value}(h:RD w j x v)(ho:oneD x=true):v.oneCell'=true:=by
 cases h<;>simp_all [oneD,Value.oneCell']
theorem xU: ∀{cs:List D} {k:Nat},oO cs=true->k<cs.length->oneD (cs.getD k default)=true
 |[],_,_,hk=>by simp at hk
 |x::xs,0,h,_=>by simp[oO] at h;simpa using h.1
 |x::xs,k+1,h,hk=>by
  simp[oO] at h;have:=xU (k:=k) h.2 (by simpa using hk);simpa using this
def Kr(σ:List aC)(sz:Nat)(y:AV)(K:Nat->(Nat->List D)->Prop):Prop:=
 match y with
 | .d (.sl _ sz' k row)=>Nat.beq sz sz'=true/\(∀i,i<k->oO (row i)=true)/\K k row
 | .d (.v (.slice none 0 0))=>K 0 fun _=>[]
 | .ms b sz' lo k=>match σ[b]? with
  |some (.arr yS n row)=>(Nat.beq sz sz'&&Nat.beq sz yS)=true/\lo+k<=n/\(∀i,i<k->oO (row (lo+i))=true)/\K k fun i=>row (lo+i)
  |_=>False
 | .mc b sz' lo k _=>match σ[b]? with
  |some (.arr yS n row)=>(Nat.beq sz sz'&&Nat.beq sz yS)=true/\lo+k<=n/\(∀i,i<k->oO (row (lo+i))=true)/\K k fun i=>row (lo+i)
  |_=>False
 | .d (.v (.string b))=>Nat.beq sz 1=true/\K b.size fun i=>[.v (.int .u8 ((b[i]?).getD 0).toNat)]
 |_=>False
structure Src(P:Program)(w:World)(j:Js)(sz k:Nat)(rows:Nat->List D)(v:Value)(news:List Value):Prop where
 len:(Builtin.lenOf v).run P w= .ok k w
 first: ∀w',(∀b,b<w.heap.size->w'.heap[b]? =w.heap[b]?)->(Builtin.firstCells sz k v).run P w'= .ok news.toArray w'
 size:news.length=k*sz
 rlen: ∀i,i<k->(rows i).length=sz
 rel: ∀i,i<k->∀q,q<sz->RD w j ((rows i).getD q default) (news.getD (i*sz+q) Go.undef)
 one: ∀u∈news,u.oneCell'=true
theorem Np{k sz:Nat}{news:List Value}{rows:Nat->List D}{w:World}{j:Js}(size:news.length=k*sz)(rlen: ∀i,i<k->(rows i).length=sz)
  (rel: ∀i,i<k->∀q,q<sz->RD w j ((rows i).getD q default) (news.getD (i*sz+q) Go.undef)) (hone: ∀i,i<k->oO (rows i)=true): ∀u∈news,u.oneCell'=true:=by
 intro u hu;obtain⟨q,hq,rfl⟩:=List.getElem_of_mem hu;have hsz:0<sz:=by
  rcases Nat.eq_zero_or_pos sz with h|h
  ·subst h;simp at size;subst size;simp at hq
  ·exact h
 have h1:q/sz<k:=by
  rw[size] at hq;exact Nat.div_lt_of_lt_mul (by rwa [Nat.mul_comm] at hq)
 have h2:q%sz<sz:=Nat.mod_lt _ hsz;have h3:=rel (q/sz) h1 (q%sz) h2;have h4:q/sz*sz+q%sz=q:=by rw[Nat.mul_comm];exact Nat.div_add_mod q sz
 rw[h4] at h3;have h5:=oneD_cell h3 (xU (hone _ h1) (by rw[rlen _ h1];exact h2));simpa[List.getD_eq_getElem?_getD,hq] using h5
theorem bQ{P:Program}{w:World}{sz k len cap:Nat}{a:Addr}{news:List Value}(hl:news.length=k*sz)(h: ∀q,q<news.length->w.cell? (a.add q)=some (news.getD q Go.undef)):(Builtin.firstCells sz k (.slice (some a) len cap)).run P w= .ok news.toArray w:=
 run_firstCells_some w sz k a len cap news hl (fun q v hq=>by
  obtain⟨h1,h2⟩:=List.getElem?_eq_some_iff.1 hq;rw[h q h1];simp[List.getD_eq_getElem?_getD,hq])
theorem wz{w w':World}(h: ∀b,b<w.heap.size->w'.heap[b]? =w.heap[b]?){a:Addr}{v:Value}(hc:w.cell? a=some v):w'.cell? a=some v:=by
 rw[xK (h a.block (block_lt_of_cell hc))];exact hc
theorem BK{P:Program}{w:World}{j:Js}{σ:List aC}(hS:aS w j σ){sz:Nat}{y:AV}{v:Value}{K:Nat->(Nat->List D)->Prop}(h:Kr σ sz y K)(hr:R w j y v): ∃k rows news,K k rows/\Src P w j sz k rows v news:=by
 unfold Kr at h;split at h
 ·rename_i cap sz' k row;obtain⟨hb,hone,hK⟩:=h;have:=Nat.eq_of_beq_eq_true hb;subst this;cases hr with|d hr=>
  cases hr with
  |sl a c val hcap hle ha hlt hbj hlen hcell hrel=>
   let news:List Value:=(List.range (k*sz)).map fun q=>val (q/sz) (q%sz)
   have hsize:news.length=k*sz:=by simp[news]
   have hget: ∀q,q<k*sz->news.getD q Go.undef=val (q/sz) (q%sz):=by
    intro q hq;simp[news,List.getD_eq_getElem?_getD,hq]
   have hcl: ∀q,q<news.length->w.cell? (a.add q)=some (news.getD q Go.undef):=by
    intro q hq;rw[hsize] at hq;have hsz:0<sz:=by
     rcases Nat.eq_zero_or_pos sz with h|h
     ·subst h;simp at hq
     ·exact h
    have h1:q/sz<k:=Nat.div_lt_of_lt_mul (by rwa [Nat.mul_comm] at hq);have h2:q%sz<sz:=Nat.mod_lt _ hsz;have h4:q/sz*sz+q%sz=q:=by rw[Nat.mul_comm];exact Nat.div_add_mod q sz
    rw[dX _ ha,hget q hq,←hcell _ h1 _ h2,Nat.add_assoc,h4]
   have JK: ∀i,i<k->∀q,q<sz->RD w j ((row i).getD q default) (news.getD (i*sz+q) Go.undef):=by
    intro i hi q hq;have hb:i*sz+q<k*sz:=by
     have:(i+1)*sz<=k*sz:=Nat.mul_le_mul_right _ hi;rw[Nat.succ_mul] at this;omega
    rw[hget _ hb];have e1:(i*sz+q)/sz=i:=by
     rw[Nat.mul_comm,Nat.mul_add_div (by omega),Nat.div_eq_of_lt hq];rfl
    have e2:(i*sz+q)%sz=q:=by
     rw[Nat.mul_comm,Nat.mul_add_mod,Nat.mod_eq_of_lt hq]
    rw[e1,e2];exact hrel i hi q hq
   refine⟨k,row,news,hK,by simp[Builtin.lenOf],fun w' hw'=> ?_,hsize,hlen,JK,Np hsize hlen JK hone⟩;exact bQ hsize fun q hq=>wz hw' (hcl q hq)
  |zero p c hcap hp=>
   refine⟨0,row,[],hK,by simp[Builtin.lenOf],fun w' hw'=> ?_,by simp,by simp,by simp,by simp⟩;cases p with
   |none=>simp[Builtin.firstCells]
   |some a=>exact bQ (news:=[]) (by simp) (by simp)
 ·have:=kD hr;subst this;exact⟨0,_,[],h,by simp[Builtin.lenOf],fun w' _=>by simp[Builtin.firstCells],by simp,by simp,by simp,by simp⟩
 ·rename_i b sz' lo k;split at h
  ·rename_i yS n row hb;obtain⟨hbb,hle,hone,hK⟩:=h;simp only[Bool.and_eq_true] at hbb;have e1:=Nat.eq_of_beq_eq_true hbb.1;have e2:=Nat.eq_of_beq_eq_true hbb.2;subst e1 e2;obtain⟨o,ho,hB⟩:=hS.blk b _ hb;cases hr with
   | @ms _ _ _ _ cb c e m hj hsh hn hm=>
    rw[hj] at ho;cases ho
    obtain⟨C,e',⟨f,hC,hf'⟩,hCs,Gn⟩:=hB;have hf:=Or.imp_left And.left hf';have hmul:(lo+k)*sz<=n*sz:=Nat.mul_le_mul_right _ hle;rw[Nat.add_mul] at hmul;let news:List Value:=(List.range (k*sz)).map fun q=>C.getD (lo*sz+q) Go.undef
    have hsize:news.length=k*sz:=by simp[news]
    have hget: ∀q,q<k*sz->news.getD q Go.undef=C.getD (lo*sz+q) Go.undef:=by
     intro q hq;simp[news,List.getD_eq_getElem?_getD,hq]
    have JK: ∀i,i<k->∀q,q<sz->RD w j ((row (lo+i)).getD q default) (news.getD (i*sz+q) Go.undef):=by
     intro i hi q hq;have hb:i*sz+q<k*sz:=by
      have:(i+1)*sz<=k*sz:=Nat.mul_le_mul_right _ hi;rw[Nat.succ_mul] at this;omega
     rw[hget _ hb,←Nat.add_assoc,←Nat.add_mul];exact(Gn (lo+i) (by omega)).2 q hq
    refine⟨k,fun i=>row (lo+i),news,hK,by simp[Builtin.lenOf],fun w' hw'=> ?_,hsize,fun i hi=>(Gn (lo+i) (by omega)).1,JK,Np hsize (fun i hi=>(Gn (lo+i) (by omega)).1) JK hone⟩;refine bQ hsize fun q hq=>wz hw' ?_;rw[hsize] at hq;rw[dX _ rfl,cell_of hC,hget q hq];simp[Array.getD_eq_getD_getElem?,show lo*sz+q<C.size by omega]
   |ms0 p hj=>
    refine⟨0,fun i=>row (0+i),[],hK,by simp[Builtin.lenOf],fun w' hw'=> ?_,by simp,by simp,by simp,by simp⟩;cases p with
    |none=>simp[Builtin.firstCells]
    |some a=>exact bQ (news:=[]) (by simp) (by simp)
   |sN p e m hj hsh hlo hm=>
    refine⟨0,fun i=>row (lo+i),[],hK,by simp[Builtin.lenOf],fun w' hw'=> ?_,by simp,by simp,by simp,by simp⟩;cases p with
    |none=>simp[Builtin.firstCells]
    |some a=>exact bQ (news:=[]) (by simp) (by simp)
  ·exact h.elim
 ·rename_i b sz' lo k _;cases hr with|mc hr _ _=>
  split at h
  ·rename_i yS n row hb;obtain⟨hbb,hle,hone,hK⟩:=h;simp only[Bool.and_eq_true] at hbb;have e1:=Nat.eq_of_beq_eq_true hbb.1;have e2:=Nat.eq_of_beq_eq_true hbb.2;subst e1 e2;obtain⟨o,ho,hB⟩:=hS.blk b _ hb;cases hr with
   | @ms _ _ _ _ cb c e m hj hsh hn hm=>
    rw[hj] at ho;cases ho
    obtain⟨C,e',⟨f,hC,hf'⟩,hCs,Gn⟩:=hB;have hf:=Or.imp_left And.left hf';have hmul:(lo+k)*sz<=n*sz:=Nat.mul_le_mul_right _ hle;rw[Nat.add_mul] at hmul;let news:List Value:=(List.range (k*sz)).map fun q=>C.getD (lo*sz+q) Go.undef
    have hsize:news.length=k*sz:=by simp[news]
    have hget: ∀q,q<k*sz->news.getD q Go.undef=C.getD (lo*sz+q) Go.undef:=by
     intro q hq;simp[news,List.getD_eq_getElem?_getD,hq]
    have JK: ∀i,i<k->∀q,q<sz->RD w j ((row (lo+i)).getD q default) (news.getD (i*sz+q) Go.undef):=by
     intro i hi q hq;have hb:i*sz+q<k*sz:=by
      have:(i+1)*sz<=k*sz:=Nat.mul_le_mul_right _ hi;rw[Nat.succ_mul] at this;omega
     rw[hget _ hb,←Nat.add_assoc,←Nat.add_mul];exact(Gn (lo+i) (by omega)).2 q hq
    refine⟨k,fun i=>row (lo+i),news,hK,by simp[Builtin.lenOf],fun w' hw'=> ?_,hsize,fun i hi=>(Gn (lo+i) (by omega)).1,JK,Np hsize (fun i hi=>(Gn (lo+i) (by omega)).1) JK hone⟩;refine bQ hsize fun q hq=>wz hw' ?_;rw[hsize] at hq;rw[dX _ rfl,cell_of hC,hget q hq];simp[Array.getD_eq_getD_getElem?,show lo*sz+q<C.size by omega]
   |ms0 p hj=>
    refine⟨0,fun i=>row (0+i),[],hK,by simp[Builtin.lenOf],fun w' hw'=> ?_,by simp,by simp,by simp,by simp⟩;cases p with
    |none=>simp[Builtin.firstCells]
    |some a=>exact bQ (news:=[]) (by simp) (by simp)
   |sN p e m hj hsh hlo hm=>
    refine⟨0,fun i=>row (lo+i),[],hK,by simp[Builtin.lenOf],fun w' hw'=> ?_,by simp,by simp,by simp,by simp⟩;cases p with
    |none=>simp[Builtin.firstCells]
    |some a=>exact bQ (news:=[]) (by simp) (by simp)
  ·exact h.elim
 ·rename_i b;obtain⟨hb,hK⟩:=h;have:=Nat.eq_of_beq_eq_true hb;subst this;have:=kD hr;subst this;let news:List Value:=b.data.toList.map fun x=> .int .u8 x.toNat
  have hl:news.length=b.size:=by simp[news]
  refine⟨b.size,_,news,hK,by simp[Builtin.lenOf],fun w' _=> ?_,by omega,by simp,fun i hi q hq=> ?_,?_⟩
  ·have e1:(b.extract 0 b.size).data=b.data:=by
    have:b.extract 0 b.size=b:=ByteArray.extract_zero_size;rw[this]
   simp only[Builtin.firstCells,e1,news,Sem.run_pure];congr 1
   apply Array.ext';simp
  ·have:q=0:=by omega
   subst this;have hi':i<b.data.size:=hi;have e2:b[i]? =some b.data[i]:=by
    rw[getElem?_pos b i hi];rfl
   have e1:news.getD (i*1+0) Go.undef= .int .u8 (b.data[i]).toNat:=by
    simp only[news,Nat.mul_one,Nat.add_zero,List.getD_eq_getElem?_getD,List.getElem?_map];rw[Array.getElem?_toList,Array.getElem?_eq_getElem hi'];rfl
   rw[e1];simp only[e2,Option.getD_some];exact .v _
  ·intro u hu;simp only[news,List.mem_map] at hu;obtain⟨x,_,rfl⟩:=hu;rfl
 ·exact h.elim
section
variable {P : Program} {w : World}
theorem iI{t t' ty e:TypeId}{d':TypeDesc}{i:TypeInfo}{zz:Value}(hu:P.underlying t=some (.slice e))(hu':P.underlying t'=some d')(hd':d'= .string\/∃e',d'= .slice e')(hi:P.info? e=some i)(hz:i.zero=some zz)
  {p:Option Addr} {n c k:Nat} {v:Value} {olds news:List Value} (ho:(Builtin.firstCells i.size n (.slice p n c)).run P w.drew= .ok olds.toArray w.drew) (hl:(Builtin.lenOf v).run P w= .ok k w) (hf:(Builtin.firstCells i.size k v).run P w.drew= .ok news.toArray w.drew)
  (hg:c<n+k) (h63:n+k<=9223372036854775807) (hb:(n+k)*i.bytes<=140737488355328):
  (Builtin.append_ #[t,t'] ty #[.slice p n c,v]).run P w= .ok (.slice (some ⟨w.heap.size,0,none⟩) (n+k) (grownCap w (n+k) c e))
   (w.drew.alloc (.cells (olds.toArray++news.toArray++Builtin.zeroCells zz.cells (grownCap w (n+k) c e-(n+k))) e)):=by
 have h1: ¬(n+k<=c):=by omega
 have h2: ¬(9223372036854775807<(n:Int)+(k:Int)):=by omega
 have h3: ¬(281474976710656<Builtin.nextslicecap (n+k) c*i.bytes):=by have:=growslice_fits hg hb;omega
 rcases hd' with rfl|⟨e',rfl⟩;all_goals
  simp[Builtin.append_,run_underlying hu,run_underlying hu',Go.sizeOf,typeInfo,zeroValue,hi,hz,hl,h1,h2,h3,Question.forced,hf,ho,newRow,grownCap];congr 2
  apply Array.ext';simp[List.append_assoc]
theorem yE{t t' ty e:TypeId}{d':TypeDesc}{i:TypeInfo}(hu:P.underlying t=some (.slice e))(hu':P.underlying t'=some d')(hd':d'= .string\/∃e',d'= .slice e')(hi:P.info? e=some i)
  {g n c k:Nat} {v:Value} {news:List Value} {C:Array Value} {ec:TypeId} {f:Nat×Nat} (hC:w.heap[g]? =some (.cells C ec f)) (hfz:C.size<=f.1\/f=(0,0)) (hl:(Builtin.lenOf v).run P w= .ok k w) (hf:(Builtin.firstCells i.size k v).run P w= .ok news.toArray w)
  (hlen:news.length=k*i.size) (hone: ∀u∈news,u.oneCell'=true) (hg:n+k<=c) (hfit:(n+k)*i.size<=C.size):
  (Builtin.append_ #[t,t'] ty #[.slice (some ⟨g,0,none⟩) n c,v]).run P w= .ok (.slice (some ⟨g,0,none⟩) (n+k) c) (w.setRow g (C.toList.take (n*i.size)++news++C.toList.drop (n*i.size+news.length)).toArray):=by
 rw[Nat.add_mul] at hfit;have hst:=jP (P:=P) g (n*i.size) ec f news 0 C w hC hfz (by omega) hone;simp only[Nat.add_zero] at hst;have hadd:(⟨g,0,none⟩:Addr).add (n*i.size)=⟨g,n*i.size,none⟩:=by rw[dX _ rfl];simp
 rcases hd' with rfl|⟨e',rfl⟩;all_goals simp[Builtin.append_,run_underlying hu,run_underlying hu',Go.sizeOf,typeInfo,hi,hl,hg,hf,hadd,hst]
theorem lG{t t' ty e:TypeId}{d':TypeDesc}{i:TypeInfo}(hu:P.underlying t=some (.slice e))(hu':P.underlying t'=some d')(hd':d'= .string\/∃e',d'= .slice e')(hi:P.info? e=some i)
  {p:Option Addr} {n c:Nat} {v:Value} (hl:(Builtin.lenOf v).run P w= .ok 0 w) (hf:(Builtin.firstCells i.size 0 v).run P w= .ok #[] w) (hg:n<=c):
  (Builtin.append_ #[t,t'] ty #[.slice p n c,v]).run P w= .ok (.slice p n c) w:=by
 rcases hd' with rfl|⟨e',rfl⟩;all_goals cases p<;>simp[Builtin.append_,run_underlying hu,run_underlying hu',Go.sizeOf,typeInfo,hi,hl,hg,hf,storeCells]
end
def bW(X:List Nat):aC->aC
 | .var cs=> .var (cs.map fun c=>if c.avoids X then c else .undef)
 | .lp L st pd=> .lp { L with t:=cO X L.t } st pd
 |x=>x
theorem RB.Xf{j:Js}{w:World}(X:List Nat){x:aC}{o:Option Nat}(h:RB w j x o):RB w j (bW X x) o:=by
 cases x with
 |dead=>exact h
 |loc c=>exact h
 |tab c vs=>exact h
 |arr sz n row=>exact h
 |mp d ks f=>exact h
 |QH d ks f κ q=>exact h
 |it left cur f=>exact h
 |lp L st pd=>
  cases o with
  |none=>exact h
  |some cb=>
   obtain⟨r,h1,h2,h3,h4⟩:=h;exact⟨r,h1,h2,h3,fun k av hk=>h4 k av (qY hk).1⟩
 |var cs=>
  cases o with
  |none=>exact h
  |some cb=>
   obtain⟨C,e,h1,h2,h3⟩:=h;refine⟨C,e,h1,by simpa using h2,fun k hk=> ?_⟩;simp only[List.length_map] at hk;have e1:(cs.map fun c=>if c.avoids X then c else AV.undef).getD k .undef=if(cs.getD k .undef).avoids X then cs.getD k .undef else .undef:=by
    simp[List.getD_eq_getElem?_getD,hk]
   rw[e1];split
   ·exact h3 k hk
   ·exact .undef _
theorem RB.monoX{j j':Js}{w w':World}{X:List Nat}(he:Ev j w j' w')(hl: ∀b cb:Nat,j[b]? =some (some cb)->cb<w.heap.size)(hag:Ag j j' X){x:aC}{o:Option Nat}(h:RB w j x o)(ho: ∀cb,o=some cb->w'.heap[cb]? =w.heap[cb]?):RB w' j' (bW X x) o:=by
 cases x with
 |dead=>trivial
 |loc c=>
  obtain⟨h1,h2,h3,m,h4⟩:=h;exact⟨h1,Nat.lt_of_lt_of_le h2 he.size,fun hm=>h3 (he.sub _ h2 hm),m,(xK (a:=⟨c,0,none⟩) (he.keep c h2 h3)).trans h4⟩
 |tab c vs=>
  obtain⟨h1,h2,h3,e,h4,h5⟩:=h;exact⟨h1,Nat.lt_of_lt_of_le h2 he.size,fun hm=>h3 (he.sub _ h2 hm),e,(he.Xa c h2).trans h4,fun i=>(xK (a:=⟨c,i,none⟩) (he.keep c h2 h3)).trans (h5 i)⟩
 |var cs=>
  cases o with
  |none=>exact h
  |some cb=>
   obtain⟨C,e,h1,h2,h3⟩:=h;refine⟨C,e,by rw[ho cb rfl,h1],by simpa using h2,fun k hk=> ?_⟩;simp only[List.length_map] at hk;have e1:(cs.map fun c=>if c.avoids X then c else AV.undef).getD k .undef=if(cs.getD k .undef).avoids X then cs.getD k .undef else .undef:=by
    simp[List.getD_eq_getElem?_getD,hk]
   rw[e1];split
   ·rename_i hav;exact(h3 k hk).mono he hl hag hav
   ·exact .undef _
 |arr sz n row=>
  cases o with
  |none=>exact h
  |some cb=>
   obtain⟨C,e,h1,h2,h3⟩:=h;exact⟨C,e,h1.at (ho cb rfl),h2,fun i hi=>⟨(h3 i hi).1,fun k hk=>((h3 i hi).2 k hk).mono he⟩⟩
 |lp L st pd=>
  cases o with
  |none=>exact h
  |some cb=>
   obtain⟨r,h1,h2,h3,h4⟩:=h;exact⟨r,by rw[ho cb rfl,h1],h2,h3,fun k av hk=>by
    have hk':=qY hk;exact⟨(h4 k av hk'.1).1,(h4 k av hk'.1).2.mono he hl hag hk'.2⟩⟩
 |mp d ks f=>
  cases o with
  |none=>exact h
  |some cb=>
   obtain⟨es,cl,h1,h2⟩:=h;exact⟨es,cl,by rw[ho cb rfl,h1],h2.mono he hl⟩
 |QH d ks f κ q=>
  cases o with
  |none=>exact h
  |some cb=>
   obtain⟨es,cl,h1,h2,hx⟩:=h;exact⟨es,cl,by rw[ho cb rfl,h1],h2.mono he hl,hx⟩
 |it left cur f=>
  cases o with
  |none=>exact h
  |some cb=>
   obtain⟨mb,es,cl,seen,h1,h2⟩:=h;exact⟨mb,es,cl,seen,by rw[ho cb rfl,h1],h2.mono he hl⟩
theorem gY(j:Js)(w:World):Ev j w j w.drew:=⟨Nat.le_refl _,fun _ _ _=>rfl,fun _ _ h=>h,fun _ _=>rfl,fun _ _=>rfl,rfl,rfl,rfl,fun _ r h=>⟨r,h⟩⟩
def aX(n:Nat)(row rows:Nat->List D):Nat->List D:=fun i=>if i<n then row i else rows (i-n)
theorem Y4{olds news:List Value}{z:Array Value}{q:Nat} :(olds.toArray++news.toArray++z).getD q Go.undef=if q<olds.length then olds.getD q Go.undef else if q<olds.length+news.length then news.getD (q-olds.length) Go.undef else z.getD (q-(olds.length+news.length)) Go.undef:=by
 simp only[Array.getD_eq_getD_getElem?,List.getD_eq_getElem?_getD,Array.getElem?_append,List.getElem?_toArray,Array.size_append,List.size_toArray];by_cases h1:q<olds.length
 ·rw[if_pos (by omega),if_pos h1,if_pos h1]
 ·by_cases h2:q<olds.length+news.length
  ·rw[if_pos h2,if_neg h1,if_neg h1,if_pos h2]
  ·rw[if_neg h2,if_neg h1,if_neg h2]
theorem LM{w:World}{j:Js}{n k sz:Nat}{row rows:Nat->List D}{olds news:List Value}{z:Array Value}(ho:olds.length=n*sz)(hn:news.length=k*sz)(hl1: ∀i,i<n->(row i).length=sz)(hl2: ∀i,i<k->(rows i).length=sz)
  (h1: ∀i,i<n->∀q,q<sz->RD w j ((row i).getD q default) (olds.getD (i*sz+q) Go.undef)) (h2: ∀i,i<k->∀q,q<sz->RD w j ((rows i).getD q default) (news.getD (i*sz+q) Go.undef)):
  ∀i,i<n+k->(aX n row rows i).length=sz/\∀q,q<sz->RD w j ((aX n row rows i).getD q default) ((olds.toArray++news.toArray++z).getD (i*sz+q) Go.undef):=by
 intro i hi;unfold aX;by_cases hin:i<n
 ·simp only[hin,if_true];refine⟨hl1 i hin,fun q hq=> ?_⟩;have:(i+1)*sz<=n*sz:=Nat.mul_le_mul_right _ hin;rw[Nat.succ_mul] at this;rw[Y4,if_pos (by omega)];exact h1 i hin q hq
 ·simp only[hin,if_false];refine⟨hl2 (i-n) (by omega),fun q hq=> ?_⟩;have h3:n*sz<=i*sz:=Nat.mul_le_mul_right _ (by omega);have h4:(i+1)*sz<=(n+k)*sz:=Nat.mul_le_mul_right _ hi;rw[Nat.succ_mul,Nat.add_mul] at h4;rw[Y4,if_neg (by omega),if_pos (by omega),ho];have h5:i*sz+q-n*sz=(i-n)*sz+q:=by rw[Nat.sub_mul];omega
  rw[h5];exact h2 (i-n) (by omega) q hq
def setRows(lo k:Nat)(rows row:Nat->List D):Nat->List D:=fun i=>if lo<=i/\i<lo+k then rows (i-lo) else row i
def LU(P:Program)(σ:List aC)(t t':TypeId)(x y:AV)(K:AV->List aC->List Nat->Prop):Prop:=
 match yZ P t with
 |some (e,sz,bytes,z)=>(Nat.beq (iD P t') 1||Nat.beq (iD P t') 2)=true/\Kr σ sz y fun k rows=>
  match x with
  | .d (.v (.slice none 0 0))=>k<=9223372036854775807/\k*bytes<=140737488355328/\K (.ms σ.length sz 0 k) (σ++[.arr sz k rows]) []
  | .d (.sl (some c) sz' n row)=>Nat.beq sz sz'=true/\c=n/\(n=0\/0<k)/\n+k<=9223372036854775807/\(n+k)*bytes<=140737488355328/\K (.ms σ.length sz 0 (n+k)) (σ++[.arr sz (n+k) (aX n row rows)]) []
  | .ms b sz' lo n=>(match σ[b]? with
   |some (.arr yS n' row)=>(Nat.beq sz sz'&&Nat.beq sz yS)=true/\lo=0/\if n<n' then n+k<=n'/\0<sz/\K (.ms b sz 0 (n+k)) (σ.set b (.arr sz n' (setRows n k rows row))) []
    else n'=n/\n+k<=9223372036854775807/\(n+k)*bytes<=140737488355328/\K (.ms b sz 0 (n+k)) ((σ.map (bW [b])).set b (.arr sz (n+k) (aX n row rows))) [b]
   |_=>False)
  |_=>False
 |none=>False
theorem lenT_d{P:Program}{t:TypeId}(h:(Nat.beq (iD P t) 1||Nat.beq (iD P t) 2)=true): ∃d,P.underlying t=some d/\(d= .string\/∃e',d= .slice e'):=by
 simp only[Bool.or_eq_true] at h;rcases h with h|h
 ·obtain⟨e,he⟩:=IL h;exact⟨_,he,.inr ⟨_,rfl⟩⟩
 ·exact⟨_,lenT_2 h,.inl rfl⟩
theorem mO{w:World}{b:Nat}{C:Array Value}{e:TypeId}{f:Nat×Nat}(h:w.heap[b]? =some (.cells C e f)):w.shape? b=some (e,C.size):=by simp[World.shape?,h]
theorem aS.grown{w:World}{j:Js}{σ:List aC}(h:aS w j σ){sz n k cap:Nat}{row rows:Nat->List D}{olds news:List Value}{z:Array Value}{e:TypeId}(ho:olds.length=n*sz)(hn:news.length=k*sz)(hl1: ∀i,i<n->(row i).length=sz)(hl2: ∀i,i<k->(rows i).length=sz)
  (h1: ∀i,i<n->∀q,q<sz->RD w j ((row i).getD q default) (olds.getD (i*sz+q) Go.undef)) (h2: ∀i,i<k->∀q,q<sz->RD w j ((rows i).getD q default) (news.getD (i*sz+q) Go.undef)) (hz:z.size=(cap-(n+k))*sz) (hcap:n+k<=cap):
  let w':=w.drew.alloc (.cells (olds.toArray++news.toArray++z) e)
  let j':=j++[some w.heap.size]
  aS w' j' (σ++[.arr sz (n+k) (aX n row rows)])/\R w' j' (.ms σ.length sz 0 (n+k)) (.slice (some ⟨w.heap.size,0,none⟩) (n+k) cap)/\Ev j w j' w':=by
 intro w' j';have hd:aS w.drew j σ:=⟨h.len,h.lt,h.inj,fun b x hx=>let⟨o,h1,h2⟩:=h.blk b x hx;⟨o,h1,h2.mono (gY j w) h.lt (.refl _ _) fun _ _=>rfl⟩⟩;have he:Ev j w.drew j' w':=pq _ _ _ _ _ (fun b hb hm=>by
  simp only[j',List.mem_append,List.mem_singleton,Option.some.injEq] at hm;rcases hm with hm|hm
  ·exact hm
  ·subst hm;exact absurd hb (by simp))
 have hcs:(olds.toArray++news.toArray++z).size=cap*sz:=by
  simp only[Array.size_append,List.size_toArray,ho,hn,hz,←Nat.add_mul];congr 1;omega
 have hrow:=LM (w:=w) (j:=j) (z:=z) ho hn hl1 hl2 h1 h2;have hle:(n+k)*sz<=cap*sz:=Nat.mul_le_mul_right _ hcap;obtain⟨g1,g2⟩:=hd.alloc (olds.toArray++news.toArray++z) e (.arr sz (n+k) (aX n row rows)) ⟨_,e,.mk0 (heap_alloc_new _ _),by rw[hcs];exact hle,fun i hi=>⟨(hrow i hi).1,fun q hq=>(((hrow i hi).2 q hq).mono (gY j w)).mono he⟩⟩;refine⟨g1,?_,(gY j w).trans g2⟩;have hms:R w' j' (.ms σ.length sz 0 (n+k)) (.slice (some ⟨w.heap.size,0*sz,none⟩) (n+k) cap):=by
  refine .ms cap e (cap*sz) ?_ ?_ hcap (by simp)
  ·simp only[j'];rw[List.getElem?_append_right (by rw[h.len];omega)];simp[h.len]
  ·rw[←hcs];exact mO (heap_alloc_new _ _)
 rwa [Nat.zero_mul] at hms
theorem aS.H8{w:World}{j:Js}{σ:List aC}(h:aS w j σ){sz:Nat}{rows:Nat->List D}{p:Option Addr} :
  let j':=j++[none]
  aS w j' (σ++[.arr sz 0 rows])/\R w j' (.ms σ.length sz 0 0) (.slice p 0 0)/\Ev j w j' w:=by
 intro j';have he:Ev j w j' w:=⟨Nat.le_refl _,fun _ _ _=>rfl,fun b _ hm=>by simpa[j'] using hm,fun _ _=>rfl,fun _ _=>rfl,rfl,rfl,rfl,fun _ r h=>⟨r,h⟩⟩;refine⟨⟨by simp[j',h.len],fun b cb hb=> ?_,fun b b' cb hb hb'=> ?_,fun b y hy=> ?_⟩,.ms0 p ?_,he⟩
 ·simp only[j'] at hb;rw[List.getElem?_append] at hb;split at hb
  ·exact h.lt b cb hb
  ·rw[List.getElem?_singleton] at hb;split at hb<;>simp at hb
 ·have key: ∀q:Nat,j'[q]? =some (some cb)->j[q]? =some (some cb):=by
   intro q hq;simp only[j'] at hq;rw[List.getElem?_append] at hq;split at hq
   ·exact hq
   ·rw[List.getElem?_singleton] at hq;split at hq<;>simp at hq
  exact h.inj b b' cb (key b hb) (key b' hb')
 ·rw[List.getElem?_append] at hy;split at hy
  ·obtain⟨o,ho,hB⟩:=h.blk b y hy;have hbl:b<j.length:=by rw[h.len];assumption
   exact⟨o,by simp only[j'];rw[List.getElem?_append_left hbl];exact ho,hB.mono he h.lt (bZ _ _) fun cb hcb=>rfl⟩
  ·rw[List.getElem?_singleton] at hy;split at hy<;>simp at hy;subst hy;refine⟨none,?_,rfl⟩;simp only[j'];rw[List.getElem?_append_right (by rw[h.len];omega),List.getElem?_singleton,if_pos (by rw[h.len];omega)]
 ·simp only[j'];rw[List.getElem?_append_right (by rw[h.len];omega)];simp[h.len]
theorem aS.drew{w:World}{j:Js}{σ:List aC}(h:aS w j σ):aS w.drew j σ:=
 ⟨h.len,h.lt,h.inj,fun b x hx=>let⟨o,h1,h2⟩:=h.blk b x hx;⟨o,h1,h2.mono (gY j w) h.lt (.refl _ _) fun _ _=>rfl⟩⟩
theorem aS.Xf{w:World}{j:Js}{σ:List aC}(h:aS w j σ)(X:List Nat):aS w j (σ.map (bW X)):=
 ⟨by simp[h.len],h.lt,h.inj,fun b x hx=>by
  simp only[List.getElem?_map,Option.map_eq_some_iff] at hx;obtain⟨y,hy,rfl⟩:=hx;obtain⟨o,h1,h2⟩:=h.blk b y hy;exact⟨o,h1,h2.Xf X⟩⟩
theorem aS.movedO{w:World}{j:Js}{σ:List aC}(h:aS w j σ){b:Nat}(hb:b<j.length){ob:Obj}{x:aC}
  (hx:RB (w.alloc ob) (j.set b (some w.heap.size)) x (some w.heap.size)):
  aS (w.alloc ob) (j.set b (some w.heap.size)) ((σ.map (bW [b])).set b x)/\Ev j w (j.set b (some w.heap.size)) (w.alloc ob)/\Ag j (j.set b (some w.heap.size)) [b]:=by
 have he:Ev j w (j.set b (some w.heap.size)) (w.alloc ob):=vV _ _ _ _ (fun q hq hm=>by
  rcases List.mem_or_eq_of_mem_set hm with hm|hm
  ·exact hm
  ·simp at hm;omega)
 have hag:Ag j (j.set b (some w.heap.size)) [b]:=by
  intro q hq hn;simp at hn;rw[List.getElem?_set_ne (by omega)]
 have key: ∀q cb:Nat,(j.set b (some w.heap.size))[q]? =some (some cb)->(q≠b/\j[q]? =some (some cb)/\cb<w.heap.size)\/(q=b/\cb=w.heap.size):=by
  intro q cb hq;rw[List.getElem?_set] at hq;split at hq
  ·rename_i hbq;simp at hq;exact .inr ⟨hbq.symm,hq.symm⟩
  ·rename_i hbq;exact .inl ⟨fun h=>hbq h.symm,hq,h.lt q cb hq⟩
 refine⟨⟨by simp[h.len],fun q cb hq=> ?_,fun q q' cb hq hq'=> ?_,fun q y hy=> ?_⟩,he,hag⟩
 ·rcases key q cb hq with h1|h1<;>simp<;>omega
 ·rcases key q cb hq with h1|h1<;>rcases key q' cb hq' with h2|h2
  ·exact h.inj q q' cb h1.2.1 h2.2.1
  ·omega
  ·omega
  ·omega
 ·rw[List.getElem?_set] at hy;split at hy
  ·rename_i hbq;split at hy<;>simp at hy;subst hbq hy;exact⟨some w.heap.size,by rw[List.getElem?_set];simp[hb],hx⟩
  ·rename_i hbq;simp only[List.getElem?_map,Option.map_eq_some_iff] at hy;obtain⟨y',hy',rfl⟩:=hy;obtain⟨o,ho,hB⟩:=h.blk q y' hy';refine⟨o,by rw[List.getElem?_set_ne hbq];exact ho,hB.monoX he h.lt hag fun cb hcb=> ?_⟩;subst hcb;exact bV w _ (h.lt q cb ho)
theorem aS.moved{w:World}{j:Js}{σ:List aC}(h:aS w j σ){b:Nat}(hb:b<j.length){C:Array Value}{e:TypeId}{x:aC}
  (hx:RB (w.alloc (.cells C e)) (j.set b (some w.heap.size)) x (some w.heap.size)):
  aS (w.alloc (.cells C e)) (j.set b (some w.heap.size)) ((σ.map (bW [b])).set b x)/\Ev j w (j.set b (some w.heap.size)) (w.alloc (.cells C e))/\Ag j (j.set b (some w.heap.size)) [b]:=h.movedO hb hx
theorem V9{P:Program}{w:World}{j:Js}{σ:List aC}(hS:aS w j σ){t t' ty:TypeId}{x y:AV}{vx vy:Value}{K:AV->List aC->List Nat->Prop}(h:LU P σ t t' x y K)(hx:R w j x vx)(hy:R w j y vy):
  ∃v w' j' r σ' X,(Builtin.append_ #[t,t'] ty #[vx,vy]).run P w= .ok v w'/\aS w' j' σ'/\R w' j' r v/\Ev j w j' w'/\j.length<=j'.length/\Ag j j' X/\K r σ' X:=by
 unfold LU at h;split at h
 ·rename_i e sz bytes z hsl;obtain⟨hu,i,zz,hi,hz,hsz,hby,hzz,hzs⟩:=oQ hsl;obtain⟨ht',h⟩:=h;obtain⟨d',hu',hd'⟩:=lenT_d ht';obtain⟨k,rows,news,h,src⟩:=BK (P:=P) hS h hy;subst hsz hby;have hf0:=src.first w (fun _ _=>rfl);have hf1:=src.first w.drew (fun _ _=>rfl);have hzc: ∀m,(Builtin.zeroCells zz.cells m).size=m*i.size:=by intro m;rw[size_zeroCells,hzs]
  split at h
  ·
   obtain⟨h63,hroom,hK⟩:=h;have hvx:=kD hx;subst hvx;rcases Nat.eq_zero_or_pos k with hk|hk
   ·subst hk;have hn:news=[]:=by have:=src.size;simpa using this
    subst hn;obtain⟨g1,g2,g3⟩:=hS.H8 (sz:=i.size) (rows:=rows) (p:=none);exact⟨_,_,_,_,_,_,lG hu hu' hd' hi src.len hf0 (Nat.le_refl 0),g1,g2,g3,by simp,bZ _ _,hK⟩
   ·have hrun:=iI (P:=P) (w:=w) (ty:=ty) hu hu' hd' hi hz (p:=none) (n:=0) (c:=0) (olds:=[]) (by simp[Builtin.firstCells]) src.len hf1 (by omega) (by omega) (by simpa using hroom);have hcap:=grownCap_ge w (0+k) 0 e;obtain⟨g1,g2,g3⟩:=hS.grown (sz:=i.size) (n:=0) (k:=k) (cap:=grownCap w (0+k) 0 e) (row:=rows) (rows:=rows) (olds:=[]) (news:=news) (z:=Builtin.zeroCells zz.cells (grownCap w (0+k) 0 e-(0+k))) (e:=e) (by simp) src.size (by simp) src.rlen (by simp) src.rel (hzc _) hcap;have ecat:aX 0 rows rows=rows:=by funext q;simp[aX]
    rw[ecat] at g1;simp only[Nat.zero_add] at hrun g1 g2 g3;exact⟨_,_,_,_,_,_,hrun,g1,g2,g3,by simp,bZ _ _,hK⟩
  ·rename_i c sz' n0 row _;obtain⟨hb,hcn,hnk,h63,hroom,hK⟩:=h;have:=Nat.eq_of_beq_eq_true hb;subst this hcn;rcases Nat.eq_zero_or_pos k with hk|hk
   ·subst hk;have hn:news=[]:=by have:=src.size;simpa using this
    subst hn;have hc0:c=0:=by omega
    subst hc0;have hval: ∃p,vx= .slice p 0 0:=by
     cases hx with|d hx=>
     cases hx with
     |sl a c' val hcap _ _ _ _ _ _ _=>rcases hcap with h|h<;>simp at h;subst h;exact⟨_,rfl⟩
     |zero p c' hcap _=>rcases hcap with h|h<;>simp at h;subst h;exact⟨_,rfl⟩
    obtain⟨p,rfl⟩:=hval;obtain⟨g1,g2,g3⟩:=hS.H8 (sz:=i.size) (rows:=aX 0 row rows) (p:=p);exact⟨_,_,_,_,_,_,lG hu hu' hd' hi src.len hf0 (Nat.le_refl 0),g1,g2,g3,by simp,bZ _ _,hK⟩
   ·have hval: ∃(p:Option Addr) (olds:List Value),vx= .slice p c c/\olds.length=c*i.size/\(∀w',(∀b,b<w.heap.size->w'.heap[b]? =w.heap[b]?)->(Builtin.firstCells i.size c vx).run P w'= .ok olds.toArray w')/\(∀q,q<c->(row q).length=i.size)/\∀q,q<c->∀r,r<i.size->RD w j ((row q).getD r default) (olds.getD (q*i.size+r) Go.undef):=by
     cases hx with|d hx=>
     cases hx with
     |sl a c' val hcap hle ha hlt hbj hlen hcell hrel=>
      rcases hcap with h|h<;>simp at h
      subst h;let olds:List Value:=(List.range (c*i.size)).map fun q=>val (q/i.size) (q%i.size)
      have hsize:olds.length=c*i.size:=by simp[olds]
      have hget: ∀q,q<c*i.size->olds.getD q Go.undef=val (q/i.size) (q%i.size):=by
       intro q hq;simp[olds,List.getD_eq_getElem?_getD,hq]
      refine⟨_,olds,rfl,hsize,fun w' hw'=>bQ hsize fun q hq=>wz hw' ?_,hlen,fun q hq r hr=> ?_⟩
      ·rw[hsize] at hq;have hsz:0<i.size:=by
        rcases Nat.eq_zero_or_pos i.size with h|h
        ·rw[h] at hq;simp at hq
        ·exact h
       have h1:q/i.size<c:=Nat.div_lt_of_lt_mul (by rwa [Nat.mul_comm] at hq);have h2:q%i.size<i.size:=Nat.mod_lt _ hsz;have h4:q/i.size*i.size+q%i.size=q:=by rw[Nat.mul_comm];exact Nat.div_add_mod q i.size
       rw[dX _ ha,hget q hq,←hcell _ h1 _ h2,Nat.add_assoc,h4]
      ·have hb:q*i.size+r<c*i.size:=by
        have:(q+1)*i.size<=c*i.size:=Nat.mul_le_mul_right _ hq;rw[Nat.succ_mul] at this;omega
       rw[hget _ hb];have e1:(q*i.size+r)/i.size=q:=by
        rw[Nat.mul_comm,Nat.mul_add_div (by omega),Nat.div_eq_of_lt hr];rfl
       have e2:(q*i.size+r)%i.size=r:=by
        rw[Nat.mul_comm,Nat.mul_add_mod,Nat.mod_eq_of_lt hr]
       rw[e1,e2];exact hrel q hq r hr
     |zero p c' hcap hp=>
      rcases hcap with h|h<;>simp at h
      subst h;refine⟨p,[],rfl,by simp,fun w' hw'=> ?_,by simp,by simp⟩;cases p with
      |none=>simp[Builtin.firstCells]
      |some a=>exact bQ (news:=[]) (by simp) (by simp)
    obtain⟨p,olds,rfl,hol,hof,hrl,hrr⟩:=hval;have hrun:=iI (P:=P) (w:=w) (ty:=ty) hu hu' hd' hi hz (hof w.drew fun _ _=>rfl) src.len hf1 (by omega) h63 hroom;obtain⟨g1,g2,g3⟩:=hS.grown (e:=e) hol src.size hrl src.rlen hrr src.rel (hzc _) (grownCap_ge w (c+k) c e);exact⟨_,_,_,_,_,_,hrun,g1,g2,g3,by simp,bZ _ _,hK⟩
  ·rename_i b sz' lo n _;split at h
   ·rename_i yS n' row hb;obtain⟨hbb,hlo,h⟩:=h;simp only[Bool.and_eq_true] at hbb;have e1:=Nat.eq_of_beq_eq_true hbb.1;have e2:=Nat.eq_of_beq_eq_true hbb.2;split at h
    ·
     rename_i hlt;obtain⟨hfit0,hpos,hK⟩:=h;subst e1 e2 hlo;obtain⟨o,ho,hB⟩:=hS.blk b _ hb;cases hx with
     | @ms _ _ _ _ cb c e' m hj hsh hn hm=>
      rw[hj] at ho;cases ho
      obtain⟨C,e'',⟨f,hC,vI⟩,hCs,Gn⟩:=hB;have hfz:=Or.imp_left And.left vI;have hm':C.size=m:=by rw[mO hC] at hsh;simp at hsh;exact hsh.2
      simp only[Nat.zero_add,Nat.zero_mul] at hm⊢;have hge:n+k<=c:=by
       have:n'*i.size<=c*i.size:=by omega
       exact Nat.le_trans hfit0 (Nat.le_of_mul_le_mul_right this hpos)
      have hfit:(n+k)*i.size<=C.size:=Nat.le_trans (Nat.mul_le_mul_right _ hfit0) hCs;have hrun:=yE (P:=P) (w:=w) (ty:=ty) hu hu' hd' hi hC hfz src.len hf0 src.size src.one hge hfit;have hss:(C.toList.take (n*i.size)++news++C.toList.drop (n*i.size+news.length)).toArray.size=C.size:=by
       rw[Nat.add_mul] at hfit;have:=src.size;simp;omega
      have hev:=qN (j:=j) hC hss (List.mem_of_getElem? hj);have hRB:RB (w.setRow cb (C.toList.take (n*i.size)++news++C.toList.drop (n*i.size+news.length)).toArray) j (.arr i.size n' (setRows n k rows row)) (some cb):=by
       refine⟨_,e'',⟨f,setRow_heap w cb C _ e'' f hC,by rw[hss];exact vI⟩,by rw[hss];exact hCs,fun q hq=> ?_⟩;rw[Nat.add_mul] at hfit;have hsl:=src.size;have hgd: ∀r,((C.toList.take (n*i.size)++news++C.toList.drop (n*i.size+news.length)).toArray).getD r Go.undef=if n*i.size<=r/\r<n*i.size+news.length then news.getD (r-n*i.size) Go.undef else C.getD r Go.undef:=fun r=>oU (by omega)
       unfold setRows;by_cases hqn:n<=q/\q<n+k
       ·rw[if_pos hqn];refine⟨src.rlen _ (by omega),fun r hr=> ?_⟩;have h3:n*i.size<=q*i.size:=Nat.mul_le_mul_right _ hqn.1;have h4:(q+1)*i.size<=(n+k)*i.size:=Nat.mul_le_mul_right _ hqn.2;rw[Nat.succ_mul,Nat.add_mul] at h4;have h5:q*i.size+r-n*i.size=(q-n)*i.size+r:=by rw[Nat.sub_mul];omega
        rw[hgd,if_pos (by omega),h5];exact(src.rel (q-n) (by omega) r hr).mono hev
       ·rw[if_neg hqn];refine⟨(Gn q hq).1,fun r hr=> ?_⟩;have hout: ¬(n*i.size<=q*i.size+r/\q*i.size+r<n*i.size+news.length):=by
         rcases Nat.lt_or_ge q n with h1|h1
         ·have:(q+1)*i.size<=n*i.size:=Nat.mul_le_mul_right _ h1;rw[Nat.succ_mul] at this;omega
         ·have:(n+k)*i.size<=q*i.size:=Nat.mul_le_mul_right _ (by omega);rw[Nat.add_mul] at this;omega
        rw[hgd,if_neg hout];exact((Gn q hq).2 r hr).mono hev
      obtain⟨g1,g2⟩:=hS.setRow (C':=(C.toList.take (n*i.size)++news++C.toList.drop (n*i.size+news.length)).toArray) hj hC hss (x:= .arr i.size n' (setRows n k rows row)) hRB;refine⟨_,_,_,_,_,_,hrun,g1,?_,g2,Nat.le_refl _,.refl _ _,hK⟩;have hms:R (w.setRow cb (C.toList.take (n*i.size)++news++C.toList.drop (n*i.size+news.length)).toArray) j (.ms b i.size 0 (n+k)) (.slice (some ⟨cb,0*i.size,none⟩) (n+k) c):=by
       refine .ms c e' m hj ?_ hge (by simpa using hm);rw[wK hC hss];exact hsh
      rwa [Nat.zero_mul] at hms
     |ms0 p hj=>
      rw[hj] at ho;cases ho
      have:n'=0:=hB;omega
     |sN p e' m hj hsh hlo hm=>exact absurd hlo (Nat.lt_irrefl 0)
    obtain⟨hn',h63,hroom,hK⟩:=h;subst e1 e2 hlo hn';obtain⟨o,ho,hB⟩:=hS.blk b _ hb;have hbl:b<j.length:=by rw[hS.len];exact(List.getElem?_eq_some_iff.1 hb).1
    have hbs:b<σ.length:=(List.getElem?_eq_some_iff.1 hb).1;cases hx with
    | @ms _ _ _ _ cb c e' m hj hsh hn hm=>
     rw[hj] at ho;cases ho
     obtain⟨C,e'',⟨f,hC,vI⟩,hCs,Gn⟩:=hB;have hfz:=Or.imp_left And.left vI;have hm':C.size=m:=by rw[mO hC] at hsh;simp at hsh;exact hsh.2
     simp only[Nat.zero_add,Nat.zero_mul] at hm⊢;rcases Nat.lt_or_ge c (n'+k) with hlt|hge
     ·
      let olds:List Value:=C.toList.take (n'*i.size)
      have hol:olds.length=n'*i.size:=by simp[olds];omega
      have hog: ∀q,q<n'*i.size->olds.getD q Go.undef=C.getD q Go.undef:=by
       intro q hq;simp[olds,List.getD_eq_getElem?_getD,hq,Array.getD_eq_getD_getElem?]
      have hof:(Builtin.firstCells i.size n' (.slice (some ⟨cb,0,none⟩) n' c)).run P w.drew= .ok olds.toArray w.drew:=by
       refine bQ hol fun q hq=> ?_;rw[hol] at hq;rw[dX _ rfl,Nat.zero_add];show w.cell? _=_
       rw[cell_of hC,hog q hq];simp[Array.getD_eq_getD_getElem?,show q<C.size by omega]
      have hrr: ∀q,q<n'->∀r,r<i.size->RD w j ((row q).getD r default) (olds.getD (q*i.size+r) Go.undef):=by
       intro q hq r hr;have hb:q*i.size+r<n'*i.size:=by
        have:(q+1)*i.size<=n'*i.size:=Nat.mul_le_mul_right _ hq;rw[Nat.succ_mul] at this;omega
       rw[hog _ hb];exact(Gn q hq).2 r hr
      have hrun:=iI (P:=P) (w:=w) (ty:=ty) hu hu' hd' hi hz hof src.len hf1 hlt h63 hroom;have hcap:=grownCap_ge w (n'+k) c e;have hcat:=LM (w:=w) (j:=j) (z:=Builtin.zeroCells zz.cells (grownCap w (n'+k) c e-(n'+k))) hol src.size (fun q hq=>(Gn q hq).1) src.rlen hrr src.rel;have hcs:(olds.toArray++news.toArray++Builtin.zeroCells zz.cells (grownCap w (n'+k) c e-(n'+k))).size=grownCap w (n'+k) c e*i.size:=by
       simp only[Array.size_append,List.size_toArray,hol,src.size,hzc,←Nat.add_mul];congr 1;omega
      have hle:(n'+k)*i.size<=grownCap w (n'+k) c e*i.size:=Nat.mul_le_mul_right _ hcap;have hev0:Ev j w.drew (j.set b (some w.heap.size)) (w.drew.alloc (.cells (olds.toArray++news.toArray++Builtin.zeroCells zz.cells (grownCap w (n'+k) c e-(n'+k))) e)):=pq _ _ _ _ _ (fun q hq hm=>by
       rcases List.mem_or_eq_of_mem_set hm with hm|hm
       ·exact hm
       ·simp only[Option.some.injEq] at hm;subst hm;exact absurd hq (by simp))
      obtain⟨g1,g2,g3⟩:=hS.drew.moved (b:=b) hbl (C:=olds.toArray++news.toArray++Builtin.zeroCells zz.cells (grownCap w (n'+k) c e-(n'+k))) (e:=e) (x:= .arr i.size (n'+k) (aX n' row rows))
       ⟨_,e,.mk0 (heap_alloc_new _ _),by rw[hcs];exact hle,fun q hq=>⟨(hcat q hq).1,fun r hr=>(((hcat q hq).2 r hr).mono (gY j w)).mono hev0⟩⟩
      refine⟨_,_,_,_,_,_,hrun,g1,?_,(gY j w).trans g2,by simp,g3,hK⟩;have hms:R (w.drew.alloc (.cells (olds.toArray++news.toArray++Builtin.zeroCells zz.cells (grownCap w (n'+k) c e-(n'+k))) e)) (j.set b (some w.heap.size)) (.ms b i.size 0 (n'+k)) (.slice (some ⟨w.heap.size,0*i.size,none⟩) (n'+k) (grownCap w (n'+k) c e)):=by
       refine .ms _ e (grownCap w (n'+k) c e*i.size) ?_ ?_ hcap (by simp)
       ·rw[List.getElem?_set];simp[hbl]
       ·rw[←hcs];exact mO (heap_alloc_new _ _)
      rwa [Nat.zero_mul] at hms
     ·
      have hfit:(n'+k)*i.size<=C.size:=by
       rw[hm'];exact Nat.le_trans (Nat.mul_le_mul_right _ hge) (Nat.le_of_eq hm)
      have hrun:=yE (P:=P) (w:=w) (ty:=ty) hu hu' hd' hi hC hfz src.len hf0 src.size src.one hge hfit;have hss:(C.toList.take (n'*i.size)++news++C.toList.drop (n'*i.size+news.length)).toArray.size=C.size:=by
       rw[Nat.add_mul] at hfit;have:=src.size;simp;omega
      have hev:=qN (j:=j) hC hss (List.mem_of_getElem? hj);have hss2:=hS.Xf [b];have hRB:RB (w.setRow cb (C.toList.take (n'*i.size)++news++C.toList.drop (n'*i.size+news.length)).toArray) j (.arr i.size (n'+k) (aX n' row rows)) (some cb):=by
       refine⟨_,e'',⟨f,setRow_heap w cb C _ e'' f hC,by rw[hss];exact vI⟩,by rw[hss];exact hfit,fun q hq=> ?_⟩;rw[Nat.add_mul] at hfit;have hsl:=src.size;have hgd: ∀r,((C.toList.take (n'*i.size)++news++C.toList.drop (n'*i.size+news.length)).toArray).getD r Go.undef=if n'*i.size<=r/\r<n'*i.size+news.length then news.getD (r-n'*i.size) Go.undef else C.getD r Go.undef:=fun r=>oU (by omega)
       unfold aX;by_cases hqn:q<n'
       ·simp only[hqn,if_true];refine⟨(Gn q hqn).1,fun r hr=> ?_⟩;have:(q+1)*i.size<=n'*i.size:=Nat.mul_le_mul_right _ hqn;rw[Nat.succ_mul] at this;rw[hgd,if_neg (by omega)];exact((Gn q hqn).2 r hr).mono hev
       ·simp only[hqn,if_false];refine⟨src.rlen _ (by omega),fun r hr=> ?_⟩;have h3:n'*i.size<=q*i.size:=Nat.mul_le_mul_right _ (by omega);have h4:(q+1)*i.size<=(n'+k)*i.size:=Nat.mul_le_mul_right _ hq;rw[Nat.succ_mul,Nat.add_mul] at h4;have h5:q*i.size+r-n'*i.size=(q-n')*i.size+r:=by rw[Nat.sub_mul];omega
        rw[hgd,if_pos (by omega),h5];exact(src.rel (q-n') (by omega) r hr).mono hev
      obtain⟨g1,g2⟩:=hss2.setRow (C':=(C.toList.take (n'*i.size)++news++C.toList.drop (n'*i.size+news.length)).toArray) hj hC hss (x:= .arr i.size (n'+k) (aX n' row rows)) hRB;refine⟨_,_,_,_,_,_,hrun,g1,?_,g2,Nat.le_refl _,.refl _ _,hK⟩;have hms:R (w.setRow cb (C.toList.take (n'*i.size)++news++C.toList.drop (n'*i.size+news.length)).toArray) j (.ms b i.size 0 (n'+k)) (.slice (some ⟨cb,0*i.size,none⟩) (n'+k) c):=by
       refine .ms c e' m hj ?_ hge (by simpa using hm);rw[wK hC hss];exact hsh
      rwa [Nat.zero_mul] at hms
    |sN p e' m hj hsh hlo hm=>exact absurd hlo (Nat.lt_irrefl 0)
    |ms0 p hj=>
     rcases Nat.eq_zero_or_pos k with hk|hk
     ·subst hk;have hn:news=[]:=by have:=src.size;simpa using this
      subst hn;have hrun:=lG (P:=P) (w:=w) (ty:=ty) hu hu' hd' hi (p:=p) src.len hf0 (Nat.le_refl 0);have hss2:=hS.Xf [b];refine⟨_,_,j,_,_,_,hrun,⟨by simp[hS.len],hS.lt,hS.inj,fun q y hy=> ?_⟩,.ms0 p hj,.refl _ _,Nat.le_refl _,.refl _ _,hK⟩;rw[List.getElem?_set] at hy;split at hy
      ·rename_i hbq;split at hy<;>simp at hy;subst hbq hy;exact⟨none,hj,rfl⟩
      ·exact hss2.blk q y hy
     ·have hrun:=iI (P:=P) (w:=w) (ty:=ty) hu hu' hd' hi hz (p:=p) (n:=0) (c:=0) (olds:=[]) (by
       cases p with
       |none=>simp[Builtin.firstCells]
       |some a=>exact bQ (news:=[]) (by simp) (by simp)) src.len hf1 (by omega) h63 hroom
      have hcap:=grownCap_ge w (0+k) 0 e;generalize grownCap w (0+k) 0 e=gc at hrun hcap
      have hcat:=LM (w:=w) (j:=j) (n:=0) (row:=row) (olds:=[]) (z:=Builtin.zeroCells zz.cells (gc-(0+k))) (by simp) src.size (by simp) src.rlen (by simp) src.rel;have hcs:(([]:List Value).toArray++news.toArray++Builtin.zeroCells zz.cells (gc-(0+k))).size=gc*i.size:=by
       simp only[Array.size_append,List.size_toArray,List.length_nil,src.size,hzc,Nat.zero_add,←Nat.add_mul];congr 1;omega
      have hle:(0+k)*i.size<=gc*i.size:=Nat.mul_le_mul_right _ hcap;have hev0:Ev j w.drew (j.set b (some w.heap.size)) (w.drew.alloc (.cells (([]:List Value).toArray++news.toArray++Builtin.zeroCells zz.cells (gc-(0+k))) e)):=pq _ _ _ _ _ (fun q hq hm=>by
       rcases List.mem_or_eq_of_mem_set hm with hm|hm
       ·exact hm
       ·simp only[Option.some.injEq] at hm;subst hm;exact absurd hq (by simp))
      obtain⟨g1,g2,g3⟩:=hS.drew.moved (b:=b) hbl (C:=([]:List Value).toArray++news.toArray++Builtin.zeroCells zz.cells (gc-(0+k))) (e:=e) (x:= .arr i.size (0+k) (aX 0 row rows))
       ⟨_,e,.mk0 (heap_alloc_new _ _),by rw[hcs];exact hle,fun q hq=>⟨(hcat q hq).1,fun r hr=>(((hcat q hq).2 r hr).mono (gY j w)).mono hev0⟩⟩
      refine⟨_,_,_,_,_,_,hrun,g1,?_,(gY j w).trans g2,by simp,g3,hK⟩;have hms:R (w.drew.alloc (.cells (([]:List Value).toArray++news.toArray++Builtin.zeroCells zz.cells (gc-(0+k))) e)) (j.set b (some w.heap.size)) (.ms b i.size 0 (0+k)) (.slice (some ⟨w.heap.size,0*i.size,none⟩) (0+k) (gc)):=by
       refine .ms _ e (gc*i.size) ?_ ?_ hcap (by simp)
       ·rw[List.getElem?_set];simp[hbl]
       ·rw[←hcs];exact mO (heap_alloc_new _ _)
      rwa [Nat.zero_mul] at hms
   ·exact h.elim
  ·exact h.elim
 ·exact h.elim
theorem IJ{z:Array Value}{m q:Nat}(hq:q<m)(hz:0<z.size):(madeCells z m).getD q Go.undef=z.getD (q%z.size) Go.undef:=by
 have h:q%z.size<z.size:=Nat.mod_lt _ hz;simp[madeCells,Array.getD_eq_getD_getElem?,hq,h]
def makeA(P:Program)(σ:List aC)(t:TypeId)(l c:Int)(K:AV->List aC->Prop):Prop:=
 match yZ P t with
 |some (e,sz,bytes,z)=>(0<=l/\l<=c/\(bytes:Int)*c<=281474976710656/\c<=9223372036854775807)/\K (.ms σ.length sz 0 l.toNat) (σ++[.arr sz l.toNat fun _=>z.map .v])
 |none=>False
theorem aau{P:Program}{w:World}{j:Js}{σ:List aC}(hS:aS w j σ){t:TypeId}{kl kc:IntKind}{l c:Int}{K:AV->List aC->Prop}(h:makeA P σ t l c K):
  ∃v w' j' r σ',(Instr.makeSlice t (.int kl l) (.int kc c)).run P w= .ok v w'/\aS w' j' σ'/\R w' j' r v/\Ev j w j' w'/\j.length<=j'.length/\Ag j j' []/\K r σ':=by
 unfold makeA at h;split at h
 ·rename_i e sz bytes z hsl;obtain⟨hu,i,zz,hi,hz,hsz,hby,hzz,hzs⟩:=oQ hsl;obtain⟨⟨h0,h1,h2,h3⟩,hK⟩:=h;subst hsz hby hzz;have hrun:=run_make (P:=P) w t e i zz hu hi hz kl kc l c h0 h1 h2 h3;have hmul:l.toNat*i.size<=c.toNat*i.size:=Nat.mul_le_mul_right _ (by omega);obtain⟨g1,g2⟩:=hS.alloc (madeCells zz.cells (c.toNat*i.size)) e (.arr i.size l.toNat fun _=>zz.cells.toList.map .v) ⟨_,e,.mk0 (heap_alloc_new _ _),by rw[size_madeCells];exact hmul,fun q hq=>⟨by simp[hzs],fun r hr=>by
   have hlt:q*i.size+r<c.toNat*i.size:=by
    have:(q+1)*i.size<=l.toNat*i.size:=Nat.mul_le_mul_right _ hq;rw[Nat.succ_mul] at this;omega
   rw[IJ hlt (by omega),hzs];have e1:(q*i.size+r)%i.size=r:=by rw[Nat.mul_comm,Nat.mul_add_mod,Nat.mod_eq_of_lt hr]
   rw[e1];have e2:(zz.cells.toList.map D.v).getD r default= .v (zz.cells.getD r Go.undef):=by
    simp[List.getD_eq_getElem?_getD,Array.getD_eq_getD_getElem?,show r<zz.cells.size by omega]
   rw[e2];exact .v _⟩⟩
  refine⟨_,_,_,_,_,hrun,g1,?_,g2,by simp,bZ _ _,hK⟩;have hms:R (w.alloc (.cells (madeCells zz.cells (c.toNat*i.size)) e)) (j++[some w.heap.size]) (.ms σ.length i.size 0 l.toNat) (.slice (some ⟨w.heap.size,0*i.size,none⟩) l.toNat c.toNat):=by
   refine .ms _ e (c.toNat*i.size) ?_ ?_ (by omega) (by simp)
   ·rw[List.getElem?_append_right (by rw[hS.len];omega)];simp[hS.len]
   ·rw[mO (heap_alloc_new _ _),size_madeCells]
  rwa [Nat.zero_mul] at hms
 ·exact h.elim
def rep(z:List Value):Nat->List Value
 |0=>[]
 |n+1=>z++rep z n
theorem Ee(z:List Value): ∀n,(rep z n).length=n*z.length
 |0=>by simp[rep]
 |n+1=>by simp[rep,Ee z n,Nat.succ_mul];omega
theorem Nu(z:List Value): ∀n q,q<n*z.length->(rep z n).getD q Go.undef=z.getD (q%z.length) Go.undef
 |0,q,h=>by simp at h
 |n+1,q,h=>by
  simp only[rep,List.getD_eq_getElem?_getD,List.getElem?_append];split
  ·rename_i hq;rw[Nat.mod_eq_of_lt hq]
  ·rename_i hq;have hz:0<z.length:=by
    rcases Nat.eq_zero_or_pos z.length with hh|hh
    ·rw[hh] at h;simp at h
    ·exact hh
   rw[←List.getD_eq_getElem?_getD,Nu z n (q-z.length) (by rw[Nat.succ_mul] at h;omega),←List.getD_eq_getElem?_getD,←Nat.mod_eq_sub_mod (by omega)]
def rowsOf(sz:Nat)(ds:List D)(i:Nat):List D:=(ds.drop (i*sz)).take sz
def dZ(P:Program)(t:TypeId)(len:Nat)(parts:List (Nat×AV))(K:AV->Prop):Prop:=
 match yZ P t with
 |some (e,sz,bytes,z)=>Nat.ble (len*sz) 16777216=true/\(match JQ ((List.range len).map fun i=>(i*sz,sz)) ((rep z len).map fun v=> .d (.v v)) parts with
  |some r=>(match V7 r with
   |some ds=>K (.d (.sl (some len) sz len (rowsOf sz ds)))
   |none=>False)
  |none=>False)
 |none=>False
theorem PL{P:Program}{t:TypeId}{len:Nat}{parts:List (Nat×AV)}{K:AV->Prop}(h:dZ P t len parts K): ∃av,K av/\dZ P t len parts fun r=>r=av:=by
 unfold dZ at h⊢;split at h
 ·obtain⟨h0,h⟩:=h;split at h
  ·split at h
   ·exact⟨_,h,h0,rfl⟩
   ·exact h.elim
  ·exact h.elim
 ·exact h.elim
theorem PK{P:Program}{t:TypeId}{len:Nat}{parts:List (Nat×AV)}{K:AV->Prop}(h:dZ P t len parts K): ∃av,K av:=by
 unfold dZ at h;split at h
 ·obtain⟨_,h⟩:=h;split at h
  ·split at h
   ·exact⟨_,h⟩
   ·exact h.elim
  ·exact h.elim
 ·exact h.elim
theorem I5{P:Program}{w:World}{j:Js}{σ:List aC}(hS:aS w j σ){t:TypeId}{len:Nat}{parts:List (Nat×AV)}{vals:List (Nat×Value)}{K:AV->Prop}(h:dZ P t len parts K)
  (h3:parts.length=vals.length) (h4: ∀k,k<parts.length->(parts.getD k (0,.undef)).1=(vals.getD k (0,Go.undef)).1/\R w j (parts.getD k (0,.undef)).2 (vals.getD k (0,Go.undef)).2):
  ∃v w' r,(Instr.buildSlice t len vals.toArray).run P w= .ok v w'/\aS w' j σ/\R w' j r v/\Ev j w j w'/\K r:=by
 unfold dZ at h;split at h
 ·rename_i e sz bytes z hsl;obtain⟨hu,i,zz,hi,hz,hsz,hby,hzz,hzs⟩:=oQ hsl;obtain⟨hle,h⟩:=h;split at h
  ·rename_i r hr;split at h
   ·rename_i ds hds;obtain⟨hdl0,hds⟩:=I9 hds;subst hsz hby hzz;simp only[Nat.ble_eq] at hle;have hrl:(rep zz.cells.toList len).length=len*i.size:=by rw[Ee];simp[hzs]
    have hini: ∀k,k<((rep zz.cells.toList len).map fun v=>AV.d (.v v)).length->R w j (((rep zz.cells.toList len).map fun v=>AV.d (.v v)).getD k .undef) ((madeCells zz.cells (len*i.size)).getD k Go.undef):=by
     intro k hk;simp only[List.length_map,hrl] at hk;have hsz:0<i.size:=by
      rcases Nat.eq_zero_or_pos i.size with hh|hh
      ·rw[hh] at hk;simp at hk
      ·exact hh
     have e1:((rep zz.cells.toList len).map fun v=>AV.d (.v v)).getD k .undef=AV.d (.v ((rep zz.cells.toList len).getD k Go.undef)):=by
      simp[List.getD_eq_getElem?_getD,show k<(rep zz.cells.toList len).length by omega]
     rw[e1,Nu _ _ _ (by simpa[hzs] using hk),IJ hk (by omega)];have e2:zz.cells.toList.getD (k%zz.cells.toList.length) Go.undef=zz.cells.getD (k%zz.cells.size) Go.undef:=by
      simp[List.getD_eq_getElem?_getD,Array.getD_eq_getD_getElem?]
     rw[e2];exact .d (.v _)
    obtain⟨C',f1,f2,f3,f4⟩:=rP (w:=w) (j:=j) (pl:=fun q=>some (q*i.size,i.size)) (C:=madeCells zz.cells (len*i.size)) (fun q x hx=>by
      simp only[List.getElem?_map,Option.map_eq_some_iff] at hx;obtain⟨q',hq',rfl⟩:=hx;obtain⟨hlt,he⟩:=List.getElem?_eq_some_iff.1 hq';simp at he;rw[he]) (by rw[size_madeCells];simp[hrl]) hini h3 h4 hr
    have hdl:ds.length=len*i.size:=by
     have:r.length=len*i.size:=by rw[f3];simp[hrl]
     rw[hdl0];exact this
    have hrun:(Instr.buildSlice t len vals.toArray).run P w= .ok (.slice (some ⟨w.heap.size,0,none⟩) len len) (w.alloc (.cells C' e)):=by
     have hgt: ¬(16777216<len*i.size):=by omega
     by_cases h0:len*i.size=0
     ·have hm:(Array.range 0).map (fun q=>(#[]:Array Value)[q%(#[]:Array Value).size]!)=madeCells zz.cells (len*i.size):=by rw[h0];simp[madeCells]
      simp only[Instr.buildSlice,Sem.run_bind,run_underlying hu,Result.andThen_ok,Go.sizeOf,typeInfo,run_program,hi,Sem.run_pure,h0,Sem.run_ite,if_true];rw[if_neg (by decide)];simp only[Result.andThen_ok,Sem.run_pure,hm,f1,newRow,Sem.run_bind,run_newObj];rfl
     ·simp only[Instr.buildSlice,Sem.run_bind,run_underlying hu,Result.andThen_ok,Go.sizeOf,typeInfo,run_program,hi,Sem.run_pure,h0,Sem.run_ite,if_false];rw[if_neg (by omega)];have hm:(Array.range (len*i.size)).map (fun q=>zz.cells[q%zz.cells.size]!)=madeCells zz.cells (len*i.size):=rfl;simp only[Result.andThen_ok,Sem.run_pure,zeroValue,typeInfo,Sem.run_bind,run_program,hi,hz,hm,f1,newRow,run_newObj];rfl
    have he:Ev j w j (w.alloc (.cells C' e)):=pq _ _ _ _ _ (fun _ _ h=>h);have hcell: ∀q,q<len*i.size->(w.alloc (.cells C' e)).cell? ⟨w.heap.size,q,none⟩=some (C'.getD q Go.undef):=by
     intro q hq;rw[cell_of (heap_alloc_new w _)];have:q<C'.size:=by rw[f2,f3];simp[hrl];exact hq
     simp[Array.getD_eq_getD_getElem?,this]
    refine⟨_,_,_,hrun,⟨hS.len,fun b cb hb=>by have:=hS.lt b cb hb;simp;omega,hS.inj,fun b x hx=> ?_⟩,?_,he,h⟩
    ·obtain⟨o,ho,hB⟩:=hS.blk b x hx;refine⟨o,ho,hB.mono he hS.lt (.refl _ _) fun cb hcb=> ?_⟩;subst hcb;exact bV w _ (hS.lt b cb ho)
    ·rcases Nat.eq_zero_or_pos len with hl0|hl0
     ·subst hl0;exact .d (.zero _ _ (.inr rfl) (by simp))
     refine .d (.sl _ _ (fun q k=>C'.getD (q*i.size+k) Go.undef) (.inr rfl) (Nat.le_refl _) rfl (by simp) (fun hm=> ?_) (fun q hq=> ?_) (fun q hq k hk=> ?_) (fun q hq k hk=> ?_))
     ·obtain⟨b,hb⟩:=List.getElem?_of_mem hm;have:=hS.lt b _ hb;simp at this
     ·have:(q+1)*i.size<=len*i.size:=Nat.mul_le_mul_right _ hq;rw[Nat.succ_mul] at this;simp[rowsOf,hdl];omega
     ·have:(q+1)*i.size<=len*i.size:=Nat.mul_le_mul_right _ hq;rw[Nat.succ_mul] at this;have:=hcell (q*i.size+k) (by omega);simpa using this
     ·have hle2:(q+1)*i.size<=len*i.size:=Nat.mul_le_mul_right _ hq;rw[Nat.succ_mul] at hle2;have hlt:q*i.size+k<r.length:=by rw[f3];simp[hrl];omega
      have:=(f4 _ hlt).kM he hS.lt (.refl _ _);have this:=hds hlt this;have e2:(rowsOf i.size ds q).getD k default=ds.getD (q*i.size+k) default:=by
       simp[rowsOf,List.getD_eq_getElem?_getD,hk]
      rw[e2];exact this
   ·exact h.elim
  ·exact h.elim
 ·exact h.elim
def uf(P:Program)(σ:List aC)(t t':TypeId)(x y:AV)(K:AV->Prop):Prop:=
 match yZ P t with
 |some (e,sz,bytes,z)=>(Nat.beq (iD P t') 1||Nat.beq (iD P t') 2)=true/\Kr σ sz y fun k rows=>
  match x with
  | .d (.sl (some 0) sz' 0 row)=>Nat.beq sz sz'=true/\k<=9223372036854775807/\k*bytes<=140737488355328/\K (.d (.sl none sz k rows))
  | .d (.sl (some c) sz' n row)=>Nat.beq sz sz'=true/\c=n/\0<k/\n+k<=9223372036854775807/\(n+k)*bytes<=140737488355328/\K (.d (.sl none sz (n+k) (aX n row rows)))
  |_=>False
 |none=>False
theorem srcA_eq{σ:List aC}{sz:Nat}{y:AV}{K:Nat->(Nat->List D)->Prop}(h:Kr σ sz y K): ∃k rows,K k rows/\Kr σ sz y fun k' rows'=>k'=k/\rows'=rows:=by
 unfold Kr at h⊢;split at h
 ·exact⟨_,_,h.2.2,h.1,h.2.1,rfl,rfl⟩
 ·exact⟨_,_,h,rfl,rfl⟩
 ·split at h
  ·rename_i hb;exact⟨_,_,h.2.2.2,h.1,h.2.1,h.2.2.1,rfl,rfl⟩
  ·exact h.elim
 ·split at h
  ·rename_i hb;exact⟨_,_,h.2.2.2,h.1,h.2.1,h.2.2.1,rfl,rfl⟩
  ·exact h.elim
 ·exact⟨_,_,h.2,h.1,rfl,rfl⟩
 ·exact h.elim
theorem appendD_eq{P:Program}{σ:List aC}{t t':TypeId}{x y:AV}{K:AV->Prop}(h:uf P σ t t' x y K): ∃av,K av/\uf P σ t t' x y fun r=>r=av:=by
 unfold uf at h⊢;split at h
 ·rename_i e sz bytes z hsl;obtain⟨h0,h⟩:=h;obtain⟨k,rows,h,hs⟩:=srcA_eq h;have key: ∀{K':Nat->(Nat->List D)->Prop},K' k rows->Kr σ sz y K':=by
   intro K' hK';unfold Kr at hs⊢;split at hs
   ·exact⟨hs.1,hs.2.1,by obtain⟨_,_,h1,h2⟩:=hs;rw[h1,h2];exact hK'⟩
   ·obtain⟨h1,h2⟩:=hs;rw[h1,h2];exact hK'
   ·split at hs
    ·rename_i hb;obtain⟨a1,a2,a3,h1,h2⟩:=hs;exact⟨a1,a2,a3,by rw[h1,h2];exact hK'⟩
    ·exact hs.elim
   ·split at hs
    ·rename_i hb;obtain⟨a1,a2,a3,h1,h2⟩:=hs;exact⟨a1,a2,a3,by rw[h1,h2];exact hK'⟩
    ·exact hs.elim
   ·obtain⟨a1,h1,h2⟩:=hs;exact⟨a1,by rw[h1,h2];exact hK'⟩
   ·exact hs.elim
  split at h
  ·exact⟨_,h.2.2.2,h0,key ⟨h.1,h.2.1,h.2.2.1,rfl⟩⟩
  ·exact⟨_,h.2.2.2.2.2,h0,key ⟨h.1,h.2.1,h.2.2.1,h.2.2.2.1,h.2.2.2.2.1,rfl⟩⟩
  ·exact h.elim
 ·exact h.elim
theorem J5{w:World}{j:Js}{σ:List aC}(hS:aS w j σ){sz n k cap:Nat}{row rows:Nat->List D}{olds news:List Value}{z:Array Value}{e:TypeId}(ho:olds.length=n*sz)(hn:news.length=k*sz)(hl1: ∀i,i<n->(row i).length=sz)(hl2: ∀i,i<k->(rows i).length=sz)
  (h1: ∀i,i<n->∀q,q<sz->RD w j ((row i).getD q default) (olds.getD (i*sz+q) Go.undef)) (h2: ∀i,i<k->∀q,q<sz->RD w j ((rows i).getD q default) (news.getD (i*sz+q) Go.undef)) (hz:z.size=(cap-(n+k))*sz) (hcap:n+k<=cap):
  let w':=w.drew.alloc (.cells (olds.toArray++news.toArray++z) e)
  aS w' j σ/\RD w' j (.sl none sz (n+k) (aX n row rows)) (.slice (some ⟨w.heap.size,0,none⟩) (n+k) cap)/\Ev j w j w':=by
 intro w';have he:Ev j w j w':=(gY j w).trans (pq _ _ _ _ _ (fun _ _ h=>h));have hcs:(olds.toArray++news.toArray++z).size=cap*sz:=by
  simp only[Array.size_append,List.size_toArray,ho,hn,hz,←Nat.add_mul];congr 1;omega
 have hrow:=LM (w:=w) (j:=j) (z:=z) ho hn hl1 hl2 h1 h2;have hle:(n+k)*sz<=cap*sz:=Nat.mul_le_mul_right _ hcap;refine⟨⟨hS.len,fun b cb hb=>Nat.lt_of_lt_of_le (hS.lt b cb hb) he.size,hS.inj,fun b x hx=> ?_⟩,?_,he⟩
 ·obtain⟨o,ho,hB⟩:=hS.blk b x hx;refine⟨o,ho,hB.mono he hS.lt (.refl _ _) fun cb hcb=> ?_⟩;subst hcb;exact bV w.drew _ (hS.lt b cb ho)
 ·refine .sl _ _ (fun q r=>(olds.toArray++news.toArray++z).getD (q*sz+r) Go.undef) (.inl rfl) hcap rfl (by simp[w']) (fun hm=> ?_) (fun q hq=>(hrow q hq).1) (fun q hq r hr=> ?_) (fun q hq r hr=>((hrow q hq).2 r hr).mono he)
  ·obtain⟨b,hb⟩:=List.getElem?_of_mem hm;have:=hS.lt b _ hb;simp at this
  ·have h9:(q+1)*sz<=(n+k)*sz:=Nat.mul_le_mul_right _ hq;rw[Nat.succ_mul] at h9;have hlt:q*sz+r<(olds.toArray++news.toArray++z).size:=by omega
   have:=cell_of (w:=w') (heap_alloc_new w.drew (.cells (olds.toArray++news.toArray++z) e)) (q*sz+r);rw[Nat.zero_add];refine this.trans ?_;rw[Array.getD_eq_getD_getElem?,Array.getElem?_eq_getElem hlt];rfl
theorem DZ{P:Program}{w:World}{j:Js}{σ:List aC}(hS:aS w j σ){t t' ty:TypeId}{x y:AV}{vx vy:Value}{K:AV->Prop}(h:uf P σ t t' x y K)(hx:R w j x vx)(hy:R w j y vy):
  ∃v w' r,(Builtin.append_ #[t,t'] ty #[vx,vy]).run P w= .ok v w'/\aS w' j σ/\R w' j r v/\Ev j w j w'/\K r:=by
 unfold uf at h;split at h
 ·rename_i e sz bytes z hsl;obtain⟨hu,i,zz,hi,hz,hsz,hby,hzz,hzs⟩:=oQ hsl;obtain⟨ht',h⟩:=h;obtain⟨d',hu',hd'⟩:=lenT_d ht';obtain⟨k,rows,news,h,src⟩:=BK (P:=P) hS h hy;subst hsz hby;have hf0:=src.first w (fun _ _=>rfl);have hf1:=src.first w.drew (fun _ _=>rfl);have hzc: ∀m,(Builtin.zeroCells zz.cells m).size=m*i.size:=by intro m;rw[size_zeroCells,hzs]
  split at h
  ·rename_i sz' row;obtain⟨hb,h63,hroom,hK⟩:=h;have:=Nat.eq_of_beq_eq_true hb;subst this;have hval: ∃p,vx= .slice p 0 0:=by
    cases hx with|d hx=>
    cases hx with
    |sl a c' val hcap _ _ _ _ _ _ _=>rcases hcap with h|h<;>simp at h;subst h;exact⟨_,rfl⟩
    |zero p c' hcap _=>rcases hcap with h|h<;>simp at h;subst h;exact⟨_,rfl⟩
   obtain⟨p,rfl⟩:=hval;rcases Nat.eq_zero_or_pos k with hk|hk
   ·subst hk;have hn:news=[]:=by have:=src.size;simpa using this
    subst hn;exact⟨_,_,_,lG hu hu' hd' hi src.len hf0 (Nat.le_refl 0),hS,.d (.zero p 0 (.inl rfl) fun _=>rfl),.refl _ _,hK⟩
   ·have hfp:(Builtin.firstCells i.size 0 (.slice p 0 0)).run P w.drew= .ok ([]:List Value).toArray w.drew:=by
     cases p with
     |none=>simp[Builtin.firstCells]
     |some a=>exact bQ (news:=[]) (by simp) (by simp)
    have hrun:=iI (P:=P) (w:=w) (ty:=ty) hu hu' hd' hi hz (p:=p) (n:=0) (c:=0) (olds:=[]) hfp src.len hf1 (by omega) (by omega) (by simpa using hroom);have hcap:=grownCap_ge w (0+k) 0 e;obtain⟨g1,g2,g3⟩:=J5 hS (sz:=i.size) (n:=0) (k:=k) (cap:=grownCap w (0+k) 0 e) (row:=rows) (rows:=rows) (olds:=[]) (news:=news) (z:=Builtin.zeroCells zz.cells (grownCap w (0+k) 0 e-(0+k))) (e:=e) (by simp) src.size (by simp) src.rlen (by simp) src.rel (hzc _) hcap;have ecat:aX 0 rows rows=rows:=by funext q;simp[aX]
    rw[ecat] at g2;simp only[Nat.zero_add] at hrun g1 g2 g3;exact⟨_,_,_,hrun,g1,.d g2,g3,hK⟩
  ·rename_i c sz' n0 row _ _;obtain⟨hb,hcn,hk,h63,hroom,hK⟩:=h;have:=Nat.eq_of_beq_eq_true hb;subst this hcn;have hval: ∃(p:Option Addr) (olds:List Value),vx= .slice p c c/\olds.length=c*i.size/\(∀w',(∀b,b<w.heap.size->w'.heap[b]? =w.heap[b]?)->(Builtin.firstCells i.size c vx).run P w'= .ok olds.toArray w')/\(∀q,q<c->(row q).length=i.size)/\∀q,q<c->∀r,r<i.size->RD w j ((row q).getD r default) (olds.getD (q*i.size+r) Go.undef):=by
    cases hx with|d hx=>
    cases hx with
    |sl a c' val hcap hle ha hlt hbj hlen hcell hrel=>
     rcases hcap with h|h<;>simp at h
     subst h;let olds:List Value:=(List.range (c*i.size)).map fun q=>val (q/i.size) (q%i.size)
     have hsize:olds.length=c*i.size:=by simp[olds]
     have hget: ∀q,q<c*i.size->olds.getD q Go.undef=val (q/i.size) (q%i.size):=by
      intro q hq;simp[olds,List.getD_eq_getElem?_getD,hq]
     refine⟨_,olds,rfl,hsize,fun w' hw'=>bQ hsize fun q hq=>wz hw' ?_,hlen,fun q hq r hr=> ?_⟩
     ·rw[hsize] at hq;have hsz:0<i.size:=by
       rcases Nat.eq_zero_or_pos i.size with h|h
       ·rw[h] at hq;simp at hq
       ·exact h
      have h1:q/i.size<c:=Nat.div_lt_of_lt_mul (by rwa [Nat.mul_comm] at hq);have h2:q%i.size<i.size:=Nat.mod_lt _ hsz;have h4:q/i.size*i.size+q%i.size=q:=by rw[Nat.mul_comm];exact Nat.div_add_mod q i.size
      rw[dX _ ha,hget q hq,←hcell _ h1 _ h2,Nat.add_assoc,h4]
     ·have hb:q*i.size+r<c*i.size:=by
       have:(q+1)*i.size<=c*i.size:=Nat.mul_le_mul_right _ hq;rw[Nat.succ_mul] at this;omega
      rw[hget _ hb];have e1:(q*i.size+r)/i.size=q:=by
       rw[Nat.mul_comm,Nat.mul_add_div (by omega),Nat.div_eq_of_lt hr];rfl
      have e2:(q*i.size+r)%i.size=r:=by
       rw[Nat.mul_comm,Nat.mul_add_mod,Nat.mod_eq_of_lt hr]
      rw[e1,e2];exact hrel q hq r hr
    |zero p c' hcap hp=>
     rcases hcap with h|h<;>simp at h
     subst h;refine⟨p,[],rfl,by simp,fun w' hw'=> ?_,by simp,by simp⟩;cases p with
     |none=>simp[Builtin.firstCells]
     |some a=>exact bQ (news:=[]) (by simp) (by simp)
   obtain⟨p,olds,rfl,hol,hof,hrl,hrr⟩:=hval;have hrun:=iI (P:=P) (w:=w) (ty:=ty) hu hu' hd' hi hz (hof w.drew fun _ _=>rfl) src.len hf1 (by omega) h63 hroom;obtain⟨g1,g2,g3⟩:=J5 hS (e:=e) hol src.size hrl src.rlen hrr src.rel (hzc _) (grownCap_ge w (c+k) c e);exact⟨_,_,_,hrun,g1,.d g2,g3,hK⟩
  ·exact h.elim
 ·exact h.elim
theorem Nl{P:Program}{w:World}{j:Js}{σ:List aC}(hS:aS w j σ){b cb sz lo k n':Nat}{row rows:Nat->List D}(hj:j[b]? =some (some cb))(hb:σ[b]? =some (.arr sz n' row))(hle:lo+k<=n'){vs:List Value}(hl:vs.length=k*sz)
  (hlen: ∀i,i<k->(rows i).length=sz) (hrel: ∀i,i<k->∀q,q<sz->RD w j ((rows i).getD q default) (vs.getD (i*sz+q) Go.undef)) (hone: ∀u∈vs,u.oneCell'=true):
  ∃w',(storeCells ⟨cb,lo*sz,none⟩ vs 0).run P w= .ok () w'/\aS w' j (σ.set b (.arr sz n' (setRows lo k rows row)))/\Ev j w j w':=by
 obtain⟨o,ho,hB⟩:=hS.blk b _ hb;rw[hj] at ho;cases ho
 obtain⟨C,e,⟨f,hC,vI⟩,hCs,Gn⟩:=hB;have hfz:=Or.imp_left And.left vI;have hfit:lo*sz+vs.length<=C.size:=by
  have h1:(lo+k)*sz<=n'*sz:=Nat.mul_le_mul_right sz hle;rw[Nat.add_mul] at h1;omega
 have h1:=jP (P:=P) cb (lo*sz) e f vs 0 C w hC hfz (by simpa using hfit) hone;simp only[Nat.add_zero] at h1;have hsz:(C.toList.take (lo*sz)++vs++C.toList.drop (lo*sz+vs.length)).toArray.size=C.size:=by simp;omega
 have he:=qN (j:=j) hC hsz (List.mem_of_getElem? hj);refine⟨_,h1,?_,he⟩;refine(hS.setRow (x:= .arr sz n' (setRows lo k rows row)) hj hC hsz ⟨_,e,⟨f,setRow_heap w cb C _ e f hC,by rw[hsz];exact vI⟩,by rw[hsz];exact hCs,fun i hi=> ?_⟩).1;by_cases hin:lo<=i/\i<lo+k
 ·have hi':i-lo<k:=by omega
  have e0:setRows lo k rows row i=rows (i-lo):=by simp[setRows,hin]
  rw[e0];refine⟨hlen _ hi',fun q hq=> ?_⟩;have hmul:i*sz=lo*sz+(i-lo)*sz:=by rw[←Nat.add_mul];congr 1;omega
  have hlt:(i-lo)*sz+q<vs.length:=by
   rw[hl];have h2:(i-lo+1)*sz<=k*sz:=Nat.mul_le_mul_right sz hi';rw[Nat.add_mul,Nat.one_mul] at h2;omega
  rw[oU hfit,if_pos (by omega),show i*sz+q-lo*sz=(i-lo)*sz+q by omega];exact(hrel _ hi' q hq).mono he
 ·have e0:setRows lo k rows row i=row i:=by simp only[setRows,hin,if_false]
  rw[e0];refine⟨(Gn i hi).1,fun q hq=> ?_⟩;have hout: ¬(lo*sz<=i*sz+q/\i*sz+q<lo*sz+vs.length):=by
   rw[hl,←Nat.add_mul];rcases Nat.lt_or_ge i lo with h|h
   ·have h2:(i+1)*sz<=lo*sz:=Nat.mul_le_mul_right sz h;rw[Nat.add_mul,Nat.one_mul] at h2;omega
   ·have h2:(lo+k)*sz<=i*sz:=Nat.mul_le_mul_right sz (by omega);omega
  rw[oU hfit,if_neg hout];exact((Gn i hi).2 q hq).mono he
theorem qO{z:Array Value}{n q:Nat}(hq:q<n*z.size):(Builtin.zeroCells z n).toList.getD q Go.undef=z.toList.getD (q%z.size) Go.undef:=by
 have hz:0<z.size:=by
  rcases Nat.eq_zero_or_pos z.size with h|h
  ·rw[h] at hq;omega
  ·exact h
 have h1:q%z.size<z.size:=Nat.mod_lt _ hz;have h2:q<(Builtin.zeroCells z n).size:=by rw[size_zeroCells];exact hq
 simp[Builtin.zeroCells,List.getD_eq_getElem?_getD,hq,h1,getElem!_pos]
def VN(P:Program)(t:TypeId)(σ:List aC)(x:AV)(K:List aC->Prop):Prop:=
 match x,yZ P t with
 | .ms b sz lo n,some (e,sz',bytes,z)=>(match σ[b]? with
  |some (.arr yS n' row)=>(Nat.beq sz sz'&&Nat.beq sz yS)=true/\lo+n<=n'/\oO (z.map .v)=true/\K (σ.set b (.arr sz n' (setRows lo n (fun _=>z.map .v) row)))
  |_=>False)
 |_,_=>False
theorem set_self{α:Type}{l:List α}{i:Nat}{x:α}(h:l[i]? =some x):l.set i x=l:=by
 apply List.ext_getElem?;intro k;rw[List.getElem?_set];split
 ·rename_i hk;subst hk;rw[h];simp[(List.getElem?_eq_some_iff.1 h).1]
 ·rfl
theorem mP{lo:Nat}{rows row:Nat->List D} :setRows lo 0 rows row=row:=by
 funext i;simp only[setRows];rw[if_neg (by omega)]
theorem Y2{P:Program}{w:World}{j:Js}{σ:List aC}(hS:aS w j σ){t ty:TypeId}{x:AV}{vx:Value}{K:List aC->Prop}(h:VN P t σ x K)(hx:R w j x vx):
  ∃w' σ',(Builtin.clear_ #[t] ty #[vx]).run P w= .ok (.tuple #[]) w'/\aS w' j σ'/\Ev j w j w'/\K σ':=by
 unfold VN at h;split at h
 ·rename_i b sz lo n e sz' bytes z hsl;split at h
  ·rename_i yS n' row hb;obtain⟨h1,h2,h3,hK⟩:=h;simp only[Bool.and_eq_true,Nat.beq_eq] at h1;obtain⟨rfl,rfl⟩:=h1;obtain⟨hu,i,zz,hi,hzz,hsz,_,rfl,hzs⟩:=oQ hsl;cases hx with
   | @ms _ _ _ _ cb c e' m hj hs hn hm=>
    rcases Nat.eq_zero_or_pos n with rfl|hpos
    ·refine⟨w,_,?_,?_,.refl _ _,hK⟩
     ·simp[Builtin.clear_,underlying,hu]
     ·rw[mP,set_self hb];exact hS
    ·obtain⟨w',g1,g2,g3⟩:=Nl (P:=P) hS (lo:=lo) (k:=n) (rows:=fun _=>zz.cells.toList.map .v) hj hb h2 (vs:=(Builtin.zeroCells zz.cells n).toList) (by simp[size_zeroCells,hzs]) (fun _ _=>by simp[hzs]) (fun q hq r hr=>by
      have hlt:q*sz+r<n*zz.cells.size:=by
       rw[hzs];have h4:(q+1)*sz<=n*sz:=Nat.mul_le_mul_right sz hq;rw[Nat.add_mul,Nat.one_mul] at h4;omega
      rw[qO hlt,hzs,show(q*sz+r)%sz=r by rw[Nat.mul_comm,Nat.mul_add_mod,Nat.mod_eq_of_lt hr]];have hr':r<zz.cells.size:=by omega
      have e1:(zz.cells.toList.map D.v).getD r default= .v (zz.cells.toList.getD r Go.undef):=by
       simp[List.getD_eq_getElem?_getD,hr']
      rw[e1];exact .v _) (fun u hu=>by
      obtain⟨q,hq,rfl⟩:=List.getElem_of_mem hu;simp only[Array.length_toList,size_zeroCells] at hq;have e1:(Builtin.zeroCells zz.cells n).toList[q]'(by simpa[size_zeroCells] using hq)=(Builtin.zeroCells zz.cells n).toList.getD q Go.undef:=by
       simp[List.getD_eq_getElem?_getD,size_zeroCells,hq]
      rw[e1,qO hq];have hz:0<zz.cells.size:=by
       rcases Nat.eq_zero_or_pos zz.cells.size with h|h
       ·rw[h] at hq;omega
       ·exact h
      have hm:q%zz.cells.size<zz.cells.size:=Nat.mod_lt _ hz;have:=xU (k:=q%zz.cells.size) h3 (by simpa using hm);have e2:(zz.cells.toList.map D.v).getD (q%zz.cells.size) default= .v (zz.cells.toList.getD (q%zz.cells.size) Go.undef):=by
       simp[List.getD_eq_getElem?_getD,hm]
      rw[e2] at this;exact this)
     refine⟨w',_,?_,g2,g3,hK⟩;obtain⟨n,rfl⟩: ∃k,n=k+1:=⟨n-1,by omega⟩;simp[Builtin.clear_,underlying,hu,zeroValue,typeInfo,hi,hzz,g1]
   | @sN _ _ _ _ p e' m hj hs hlo hm=>
    refine⟨w,_,?_,?_,.refl _ _,hK⟩
    ·cases p<;>simp[Builtin.clear_,underlying,hu]
    ·rw[mP,set_self hb];exact hS
   | @ms0 _ _ p hj=>
    refine⟨w,_,?_,?_,.refl _ _,hK⟩
    ·cases p<;>simp[Builtin.clear_,underlying,hu]
    ·rw[mP,set_self hb];exact hS
  ·exact h.elim
 ·exact h.elim
def msOf:AV->Option (Nat×Nat×Nat×Nat)
 | .ms b sz lo n=>some (b,sz,lo,n)
 | .mc b sz lo n _=>some (b,sz,lo,n)
 |_=>none
theorem msOf_spec{w:World}{j:Js}{x:AV}{v:Value}{b sz lo n:Nat}(h:msOf x=some (b,sz,lo,n))(hr:R w j x v):R w j (.ms b sz lo n) v:=by
 unfold msOf at h;split at h<;>simp only[Option.some.injEq,Prod.mk.injEq,reduceCtorEq] at h
 ·obtain⟨rfl,rfl,rfl,rfl⟩:=h;exact hr
 ·obtain⟨rfl,rfl,rfl,rfl⟩:=h;cases hr with|mc hr _ _=>exact hr
def cutN(n:Nat):AV->AV
 | .mc b sz lo k _=> .ms b sz lo (min k n)
 |y=>y
theorem cut_sound{P:Program}{w:World}{j:Js}{σ:List aC}(hS:aS w j σ){sz n:Nat}{y:AV}{v:Value}{K:Nat->(Nat->List D)->Prop}(h:Kr σ sz (cutN n y) fun k rows=>k<=n/\K k rows)(hr:R w j y v):
  ∃(k:Nat) (rows:Nat->List D) (news:List Value) (kf:Nat),(k<=n/\K k rows)/\(Builtin.lenOf v).run P w= .ok kf w/\Nat.min kf n=k/\(Builtin.firstCells sz k v).run P w= .ok news.toArray w/\news.length=k*sz/\(∀i,i<k->(rows i).length=sz)/\
   (∀i,i<k->∀q,q<sz->RD w j ((rows i).getD q default) (news.getD (i*sz+q) Go.undef))/\(∀u∈news,u.oneCell'=true):=by
 have old:cutN n y=y->∃(k:Nat) (rows:Nat->List D) (news:List Value) (kf:Nat),(k<=n/\K k rows)/\(Builtin.lenOf v).run P w= .ok kf w/\Nat.min kf n=k/\(Builtin.firstCells sz k v).run P w= .ok news.toArray w/\news.length=k*sz/\(∀i,i<k->(rows i).length=sz)/\
   (∀i,i<k->∀q,q<sz->RD w j ((rows i).getD q default) (news.getD (i*sz+q) Go.undef))/\(∀u∈news,u.oneCell'=true):=fun he=>by
  rw[he] at h;obtain⟨k,rows,news,⟨hkn,hK⟩,src⟩:=BK (P:=P) hS h hr;exact⟨k,rows,news,k,⟨hkn,hK⟩,src.len,Nat.min_eq_left hkn,src.first w (fun _ _=>rfl),src.size,src.rlen,src.rel,src.one⟩
 cases y with
 |mc b sz' lo k c=>
  cases hr with
  |mc hr q hv=>
   subst hv;have hr':R w j (.ms b sz' lo (min k n)) (.slice q (min k n) c):=by
    cases hr with
    |ms c e m h1 h2 h3 h4=>exact .ms c e m h1 h2 (Nat.le_trans (Nat.min_le_left _ _) h3) h4
    |ms0 p h1=>rw[Nat.zero_min];exact .ms0 _ h1
    |sN p e m h1 h2 h3 h4=>rw[Nat.zero_min];exact .sN _ e m h1 h2 h3 h4
   obtain⟨k',rows,news,⟨hkn,hK⟩,src⟩:=BK (P:=P) hS h hr';have hk':k'=min k n:=by
    have h1:=src.len;have h2:(Builtin.lenOf (.slice q (min k n) c)).run P w= .ok (min k n) w:=by simp[Builtin.lenOf]
    rw[h2] at h1;simp at h1;exact h1.symm
   have hf:=src.first w (fun _ _=>rfl);refine⟨k',rows,news,k,⟨hkn,hK⟩,by simp[Builtin.lenOf],hk'.symm,?_,src.size,src.rlen,src.rel,src.one⟩;cases q<;>exact hf
 |_=>exact old rfl
def copyA(P:Program)(σ:List aC)(t:TypeId)(x y:AV)(K:AV->List aC->Prop):Prop:=
 match msOf x,yZ P t with
 |some (b,sz,lo,n),some (e,sz',bytes,z)=>(match σ[b]? with
  |some (.arr yS n' row)=>(Nat.beq sz sz'&&Nat.beq sz yS)=true/\lo+n<=n'/\Kr σ sz (cutN n y) fun k rows=>k<=n/\K (.d (.v (.int .i64 k))) (σ.set b (.arr sz n' (setRows lo k rows row)))
  |_=>False)
 |_,_=>False
theorem copy_sound{P:Program}{w:World}{j:Js}{σ:List aC}(hS:aS w j σ){t t' ty:TypeId}{x y:AV}{vx vy:Value}{K:AV->List aC->Prop}(h:copyA P σ t x y K)(hx:R w j x vx)(hy:R w j y vy):
  ∃w' k σ',(Builtin.copy_ #[t,t'] ty #[vx,vy]).run P w= .ok (.int .i64 k) w'/\aS w' j σ'/\Ev j w j w'/\K (.d (.v (.int .i64 k))) σ':=by
 unfold copyA at h;split at h
 ·rename_i b sz lo n e sz' bytes z hms hsl;split at h
  ·rename_i yS n' row hb;obtain⟨h1,h2,h⟩:=h;simp only[Bool.and_eq_true,Nat.beq_eq] at h1;obtain⟨rfl,rfl⟩:=h1;obtain⟨hu,i,zz,hi,hzz,hsz,_,rfl,hzs⟩:=oQ hsl;obtain⟨k,rows,news,kf,⟨hkn,hK⟩,hlen,hmin,hf0,hsize,hrlen,hrel,hone⟩:=cut_sound (P:=P) hS (K:=fun k rows=>K (.d (.v (.int .i64 k))) (σ.set b (.arr sz n' (setRows lo k rows row)))) h hy;have hsz':(Go.sizeOf e).run P w= .ok sz w:=by simp[Go.sizeOf,typeInfo,hi,hsz]
   replace hx:=msOf_spec hms hx
   cases hx with
   | @ms _ _ _ _ cb c e' m hj hs hn hm=>
    obtain⟨w',g1,g2,g3⟩:=Nl (P:=P) hS hj hb (lo:=lo) (k:=k) (by omega) hsize hrlen hrel hone;refine⟨w',k,_,?_,g2,g3,hK⟩;simp[Builtin.copy_,underlying,hu,hlen,hmin,hsz',hf0,g1,goInt]
   |ms0 p hj=>
    have hk:k=0:=by omega
    subst hk;have hn:news=[]:=by have:=hsize;simpa using this
    subst hn;refine⟨w,((0:Nat):Int),_,?_,?_,.refl _ _,hK⟩
    ·cases p<;>simp[Builtin.copy_,underlying,hu,hlen,hsz',hf0,goInt,storeCells]
    ·rw[mP,set_self hb];exact hS
   | @sN _ _ _ cb p e' m hj hs hlo hm=>
    have hk:k=0:=by omega
    subst hk;have hn:news=[]:=by have:=hsize;simpa using this
    subst hn;refine⟨w,((0:Nat):Int),_,?_,?_,.refl _ _,hK⟩
    ·cases p<;>simp[Builtin.copy_,underlying,hu,hlen,hsz',hf0,goInt,storeCells]
    ·rw[mP,set_self hb];exact hS
  ·exact h.elim
 ·exact h.elim
def CO(P:Program)(σ:List aC)(t t':TypeId)(x y:AV)(K:AV->List aC->List Nat->Prop):Prop:=
 match x,y with
 | .mc b sz lo n c,.d (.v (.int kq m))=>(match yZ P t,yJ P t',σ[b]? with
  |some (e,sz',bytes,z),some _,some (.arr yS n' row)=>(Nat.beq sz sz'&&Nat.beq sz yS)=true/\0<sz/\lo=0/\n<=n'/\0<m/\(c:Int)<n+m/\(n:Int)+m<=9223372036854775807/\(n+m.toNat)*bytes<=140737488355328/\K (.ms σ.length sz 0 (n+m.toNat)) (σ++[.arr sz (n+m.toNat) (aX n row fun _=>z.map .v)]) []
  |_,_,_=>False)
 |_,_=>LU P σ t t' x y K
theorem uJ{P:Program}{w:World}{j:Js}{σ:List aC}(hS:aS w j σ){t t' ty:TypeId}{x y:AV}{vx vy:Value}{K:AV->List aC->List Nat->Prop}(h:CO P σ t t' x y K)(hx:R w j x vx)(hy:R w j y vy):
  ∃v w' j' r σ' X,(Builtin.append_ #[t,t'] ty #[vx,vy]).run P w= .ok v w'/\aS w' j' σ'/\R w' j' r v/\Ev j w j' w'/\j.length<=j'.length/\Ag j j' X/\K r σ' X:=by
 unfold CO at h;split at h
 ·rename_i b sz lo n c kq m;split at h
  ·rename_i e sz' bytes z kn yS n' row hsl hit hb;obtain⟨h1,hpos,rfl,hnn,hm0,hcn,h63,h47,hK⟩:=h;simp only[Bool.and_eq_true,Nat.beq_eq] at h1;obtain⟨rfl,rfl⟩:=h1;obtain⟨hu,i,zz,hi,hzz,hsz,hby,rfl,hzs⟩:=oQ hsl;have hut:P.underlying t'=some (.int kn):=by
    unfold yJ at hit;split at hit<;>simp at hit;subst hit;assumption
   obtain⟨k,rfl⟩: ∃k:Nat,m=k:=⟨m.toNat,by omega⟩;simp only[Int.toNat_natCast] at hK h47;have hvy:=kD hy;subst hvy;cases hx with|mc hx q hv=>
   have hcore: ∀(p:Option Addr) (olds:List Value),vx= .slice p n c->(Builtin.firstCells i.size n vx).run P w.drew= .ok olds.toArray w.drew->olds.length=n*sz->(∀q,q<n->(row q).length=sz)->(∀q,q<n->∀r,r<sz->RD w j ((row q).getD r default) (olds.getD (q*sz+r) Go.undef))->
     ∃v w' j' r σ' X,(Builtin.append_ #[t,t'] ty #[vx,.int kq k]).run P w= .ok v w'/\aS w' j' σ'/\R w' j' r v/\Ev j w j' w'/\j.length<=j'.length/\Ag j j' X/\K r σ' X:=by
    intro p olds hvx hof hol hrl hrr;subst hvx;have hg:c<n+k:=by omega
    have hfit:=growslice_fits hg (by rw[hby];exact h47:(n+k)*i.bytes<=140737488355328);have hrun:=Lib.run_append_grow_zeros (P:=P) w t t' ty e i zz kq kn hu hut hi hzz p n c olds hof k (by omega) (by omega) hg (by omega) (by have:k*i.bytes<=(n+k)*i.bytes:=Nat.mul_le_mul_right _ (by omega);rw[←hby] at h47;omega) (by omega);have hzc: ∀m,(Builtin.zeroCells zz.cells m).size=m*sz:=by intro m;rw[size_zeroCells,hzs]
    have hnl:(Builtin.zeroCells zz.cells k).toList.length=k*sz:=by simp[hzc]
    obtain⟨g1,g2,g3⟩:=hS.grown (sz:=sz) (n:=n) (k:=k) (cap:=grownCap w (n+k) c e) (row:=row) (rows:=fun _=>zz.cells.toList.map .v) (olds:=olds) (news:=(Builtin.zeroCells zz.cells k).toList) (z:=Builtin.zeroCells zz.cells (grownCap w (n+k) c e-(n+k))) (e:=e) hol hnl hrl (fun _ _=>by simp[hzs]) hrr (fun q hq r hr=>by
     have hlt:q*sz+r<k*zz.cells.size:=by
      rw[hzs];have h4:(q+1)*sz<=k*sz:=Nat.mul_le_mul_right sz hq;rw[Nat.add_mul,Nat.one_mul] at h4;omega
     rw[qO hlt,hzs,show(q*sz+r)%sz=r by rw[Nat.mul_comm,Nat.mul_add_mod,Nat.mod_eq_of_lt hr]];have hr':r<zz.cells.size:=by omega
     have e1:(zz.cells.toList.map D.v).getD r default= .v (zz.cells.toList.getD r Go.undef):=by
      simp[List.getD_eq_getElem?_getD,hr']
     rw[e1];exact .v _) (hzc _) (grownCap_ge w (n+k) c e)
    simp only[Array.toArray_toList] at g1 g2 g3;exact⟨_,_,_,_,_,_,hrun,g1,g2,g3,by simp,bZ _ _,hK⟩
   obtain⟨o,ho,hB⟩:=hS.blk b _ hb;cases hx with
   | @ms _ _ _ _ cb c' e' m' hj hsh hn hm=>
    cases hv
    rw[hj] at ho;cases ho
    obtain⟨C,e'',⟨f,hC,vI⟩,hCs,Gn⟩:=hB;have hfz:=Or.imp_left And.left vI;have hnm:n*sz<=n'*sz:=Nat.mul_le_mul_right _ hnn;have hol:(C.toList.take (n*sz)).length=n*sz:=by simp;omega
    have hog: ∀q,q<n*sz->(C.toList.take (n*sz)).getD q Go.undef=C.getD q Go.undef:=by
     intro q hq;simp[List.getD_eq_getElem?_getD,hq,Array.getD_eq_getD_getElem?]
    refine hcore (some ⟨cb,0*sz,none⟩) (C.toList.take (n*sz)) rfl ?_ hol (fun q hq=>(Gn q (by omega)).1) (fun q hq r hr=> ?_)
    ·rw[hsz];refine bQ hol fun q hq=> ?_;rw[hol] at hq;rw[dX _ rfl,Nat.zero_mul,Nat.zero_add];show w.cell? _=_
     rw[cell_of hC,hog q hq];simp[Array.getD_eq_getD_getElem?,show q<C.size by omega]
    ·have hb:q*sz+r<n*sz:=by
      have:(q+1)*sz<=n*sz:=Nat.mul_le_mul_right _ hq;rw[Nat.succ_mul] at this;omega
     rw[hog _ hb];exact(Gn q (by omega)).2 r hr
   |ms0 p hj=>
    cases hv
    refine hcore q [] rfl ?_ (by simp) (by omega) (by omega);cases q with
    |none=>simp[Builtin.firstCells]
    |some a=>exact bQ (news:=[]) (by simp) (by simp)
   |sN p e' m' hj hs hlo hm=>exact absurd hlo (Nat.lt_irrefl 0)
  ·exact h.elim
 ·exact V9 hS h hx hy
theorem Key.Wy{k k':Key}(h:k.v=k'.v):k=k':=by
 cases k<;>cases k'<;>simp_all [Key.v]
def akey:AV->Option Key
 | .d (.v (.int .i64 x))=>some (.i x)
 | .d (.v (.string b))=>some (.s b)
 |_=>none
theorem Wh{av:AV}{κ:Key}(h:akey av=some κ):av= .d (.v κ.v):=by
 unfold akey at h;split at h<;>simp at h<;>subst h<;>rfl
def yH(P:Program)(t:TypeId):Option (Bool×AV):=
 match P.underlying t with
 |some (.map kt et)=>match P.underlying kt,P.info? et with
  |some (.int .i64),some i=>i.zero.map fun z=>(false,ofConst z)
  |some .string,some i=>i.zero.map fun z=>(true,ofConst z)
  |_,_=>none
 |_=>none
theorem qM{P:Program}{t:TypeId}{d:Bool}{z:AV}(h:yH P t=some (d,z)): ∃kt et kd zz,P.underlying t=some (.map kt et)/\P.underlying kt=some kd/\(∀k:Key,k.str=d->MapKept.IsKey kd k.v)/\z=ofConst zz/\∀w,(zeroValue et).run P w= .ok zz w:=by
 unfold yH at h;split at h
 ·rename_i kt et hu;split at h
  ·rename_i i hk hi;simp only[Option.map_eq_some_iff,Prod.mk.injEq] at h;obtain⟨zz,hz,rfl,rfl⟩:=h;refine⟨kt,et,_,zz,hu,hk,fun k hk=> ?_,rfl,fun w=>by simp[zeroValue,typeInfo,hi,hz]⟩;cases k with
   |i x=>rfl
   |s b=>cases hk
  ·rename_i i hk hi;simp only[Option.map_eq_some_iff,Prod.mk.injEq] at h;obtain⟨zz,hz,rfl,rfl⟩:=h;refine⟨kt,et,_,zz,hu,hk,fun k hk=> ?_,rfl,fun w=>by simp[zeroValue,typeInfo,hi,hz]⟩;cases k with
   |i x=>cases hk
   |s b=>trivial
  ·simp at h
 ·simp at h
section
variable {P : Program} {w : World} {j : Js} {es : Array MapEntry} {cl : Nat} {d : Bool} {ks : List Key} {f : Key -> AV}
theorem ji.key_of(h:ji w j es cl d ks f){e:MapEntry}(he:e∈es.toList): ∃k∈ks,e.key=k.v:=by
 have:e.key∈ks.map Key.v:=h.keys.mem_iff.1 (List.mem_map.2 ⟨e,he,rfl⟩);obtain⟨k,hk,hv⟩:=List.mem_map.1 this;exact⟨k,hk,hv.symm⟩
theorem ji.mem(h:ji w j es cl d ks f){k:Key} :k∈ks↔∃e∈es.toList,e.key=k.v:=by
 constructor
 ·intro hk;have:k.v∈es.toList.map (·.key):=h.keys.mem_iff.2 (List.mem_map.2 ⟨k,hk,rfl⟩);obtain⟨e,he,hv⟩:=List.mem_map.1 this;exact⟨e,he,hv⟩
 ·rintro⟨e,he,hv⟩;obtain⟨k',hk',hv'⟩:=h.key_of he;rw[hv] at hv';rw[Key.Wy hv'];exact hk'
theorem ji.look(h:ji w j es cl d ks f){kd:TypeDesc}(hkd: ∀k:Key,k.str=d->MapKept.IsKey kd k.v){κ:Key}(hs:κ.str=d):
  (Instr.findNow kd κ.v es.toList 0=some none/\κ∉ks)\/∃q e,Instr.findNow kd κ.v es.toList 0=some (some (q,e.val))/\es.toList[q]? =some e/\e.key=κ.v/\κ∈ks/\R w j (f κ) e.val:=by
 have hks: ∀x∈es.toList,MapKept.IsKey kd x.key:=fun x hx=>by
  obtain⟨k,hk,hv⟩:=h.key_of hx;rw[hv];exact hkd k (h.kind k hk)
 rcases MapKept.findNow_spec (hkd κ hs) es.toList 0 hks with⟨h1,h2⟩|⟨q,e,h1,h2,h3⟩
 ·exact .inl ⟨h1,fun hm=>by obtain⟨e,he,hv⟩:=h.mem.1 hm;exact h2 e he hv⟩
 ·have he:e∈es.toList:=List.mem_of_getElem? h2;exact .inr ⟨q,e,by simpa using h1,h2,h3,h.mem.2 ⟨e,he,h3⟩,h.rel e he κ h3⟩
theorem OC(h:ji w j es cl d ks f){cb:Nat}(hb:w.heap[cb]? =some (.map es cl)){t:TypeId}{z:AV}(ht:yH P t=some (d,z)){κ:Key}(hs:κ.str=d)(c:Bool):
  ∃v,(Instr.lookup t (.map (some cb)) κ.v c).run P w= .ok (if c then .tuple #[v,.bool (decide (κ∈ks))] else v) w/\(κ∈ks->R w j (f κ) v)/\(κ∉ks->R w j z v):=by
 obtain⟨kt,et,kd,zz,h1,h2,h3,rfl,h5⟩:=qM ht;rcases h.look h3 hs with⟨g1,g2⟩|⟨q,e,g1,g2,g3,g4,g5⟩
 ·refine⟨zz,?_,fun hm=>absurd hm g2,fun _=>TN w j zz⟩;simp[Instr.lookup,run_underlying h1,MapKept.run_getObj_map hb,MapKept.run_checkKey h2 (h3 κ hs),MapKept.run_findKey h2 g1,h5,Result.andThen,g2]
 ·refine⟨e.val,?_,fun _=>g5,fun hm=>absurd g4 hm⟩;simp[Instr.lookup,run_underlying h1,MapKept.run_getObj_map hb,MapKept.run_checkKey h2 (h3 κ hs),MapKept.run_findKey h2 g1,Result.andThen,g4]
def kQ(κ:Key)(ks:List Key):List Key:=if κ∈ks then ks else ks++[κ]
def kU(f:Key->AV)(κ:Key)(v:AV):Key->AV:=fun k=>if k=κ then v else f k
theorem fC{κ k:Key}{ks:List Key} :k∈kQ κ ks↔k=κ\/k∈ks:=by
 unfold kQ;split
 ·constructor
  ·exact .inr
  ·rintro(rfl|h)<;>assumption
 ·simp[or_comm]
theorem mg{w:World}{j:Js}{cb:Nat}{es es':Array MapEntry}{cl cl':Nat}(hb:w.heap[cb]? =some (.map es cl))(hj:some cb∈j):Ev j w j (w.putObj cb (.map es' cl')):=by
 have hlt:cb<w.heap.size:=(Array.getElem?_eq_some_iff.1 hb).1;have hnew:(w.putObj cb (.map es' cl')).heap[cb]? =some (.map es' cl'):=World.putObj_heap_same hlt;have hold: ∀b,b≠cb->(w.putObj cb (.map es' cl')).heap[b]? =w.heap[b]? :=fun b hne=>World.putObj_heap_other hne;refine⟨by simp,fun b hb' hn=>hold b (fun e=>hn (by rw[e];exact hj)),fun _ _ h=>h,fun b hb'=> ?_,fun a ha=> ?_,rfl,rfl,rfl,fun b r hr=> ?_⟩
 ·by_cases e:b=cb
  ·subst e;simp[World.shape?,hnew,hb]
  ·simp[World.shape?,hold b e]
 ·by_cases e:a.block=cb
  ·simp[World.frozen?,e,hnew,hb]
  ·simp[World.frozen?,hold _ e]
 ·have e:b≠cb:=fun e=>by rw[e,hb] at hr;cases hr
  exact⟨r,by rw[hold b e];exact hr⟩
theorem aS.setObj{w:World}{j:Js}{σ:List aC}(h:aS w j σ){b cb:Nat}(hj:j[b]? =some (some cb)){ob:Obj}{x:aC}(he:Ev j w j (w.putObj cb ob))(hx:RB (w.putObj cb ob) j x (some cb)):aS (w.putObj cb ob) j (σ.set b x):=by
 refine⟨by simp[h.len],fun q c hq=>by simpa using h.lt q c hq,h.inj,fun q y hy=> ?_⟩;rw[List.getElem?_set] at hy;split at hy
 ·rename_i e;split at hy<;>simp at hy;subst e hy;exact⟨_,hj,hx⟩
 ·rename_i e;obtain⟨o,ho,hB⟩:=h.blk q y hy;refine⟨o,ho,hB.mono he h.lt (.refl _ _) fun c hc=> ?_⟩;subst hc;exact World.putObj_heap_other fun e'=>by subst e';exact e (h.inj _ _ _ hj ho)
theorem ZJ{σ:List aC}(hS:aS w j σ){b cb:Nat}(hj:j[b]? =some (some cb))(h:ji w j es cl d ks f)(hb:w.heap[cb]? =some (.map es cl)){t:TypeId}{z:AV}(ht:yH P t=some (d,z)){κ:Key}(hs:κ.str=d){av:AV}{v:Value}(hv:R w j av v)(hf:av.free=true):
  ∃es' cl',(Instr.mapUpdate t (.map (some cb)) κ.v v).run P w= .ok () (w.putObj cb (.map es' cl'))/\ji (w.putObj cb (.map es' cl')) j es' cl' d (kQ κ ks) (kU f κ av):=by
 obtain⟨kt,et,kd,zz,h1,h2,h3,rfl,h5⟩:=qM ht;have hm:some cb∈j:=List.mem_of_getElem? hj;have hfree: ∀k,(kU f κ av k).free=true:=fun k=>by unfold kU;split;exact hf;exact h.free k
 rcases h.look h3 hs with⟨g1,g2⟩|⟨q,e,g1,g2,g3,g4,g5⟩
 ·have hne: ∀x∈es.toList,x.key≠κ.v:=fun x hx hk=>g2 (h.mem.2 ⟨x,hx,hk⟩);have he:Ev j w j (w.putObj cb (.map (es.push ⟨κ.v,v,cl⟩) (cl+1))):=mg hb hm;refine⟨es.push ⟨κ.v,v,cl⟩,cl+1,?_,MapKept.stamped_push h.stamped hne,?_,?_,hfree,?_⟩
  ·simp[Instr.mapUpdate,run_underlying h1,MapKept.run_getObj_map hb,MapKept.run_checkKey h2 (h3 κ hs),MapKept.run_findKey h2 g1,MapKept.run_setObj_map _ hb,Result.andThen,World.putObj]
  ·unfold kQ;rw[if_neg g2];simp only[Array.toList_push,List.map_append,List.map_cons,List.map_nil];exact h.keys.append_right _
  ·intro k hk;rcases fC.1 hk with rfl|hk
   ·exact hs
   ·exact h.kind k hk
  ·intro x hx k hk;simp only[Array.toList_push,List.mem_append,List.mem_singleton] at hx;unfold kU;rcases hx with hx|rfl
   ·rw[if_neg (fun e=>hne x hx (by rw[hk,e]))];exact(h.rel x hx k hk).vO he hS.lt (h.free k)
   ·rw[if_pos (Key.Wy hk).symm];exact hv.vO he hS.lt hf
 ·have hlt:q<es.toList.length:=(List.getElem?_eq_some_iff.1 g2).1;have hq:es[q]? =some e:=by simpa using g2
  have he:Ev j w j (w.putObj cb (.map (es.modify q fun x=> { x with key:=κ.v,val:=v }) cl)):=mg hb hm;have hlist:(es.modify q fun x=> { x with key:=κ.v,val:=v }).toList=es.toList.modify q fun x=> { x with key:=κ.v,val:=v } :=Array.toList_modify ..;have hkeys:(es.toList.modify q fun x=> { x with key:=κ.v,val:=v }).map (·.key)=es.toList.map (·.key):=by
   apply List.ext_getElem?;intro i;simp only[List.getElem?_map,List.getElem?_modify];by_cases e1:q=i
   ·subst e1;simp[g2,g3]
   ·simp[e1]
  have hborns:(es.toList.modify q fun x=> { x with key:=κ.v,val:=v }).map (·.born)=es.toList.map (·.born):=by
   apply List.ext_getElem?;intro i;simp only[List.getElem?_map,List.getElem?_modify];by_cases e1:q=i
   ·subst e1;simp[g2]
   ·simp[e1]
  refine⟨_,cl,?_,⟨?_,by rw[hlist,hborns];exact h.stamped.2.1,by rw[hlist,hkeys];exact h.stamped.2.2⟩,?_,?_,hfree,?_⟩
  ·simp[Instr.mapUpdate,run_underlying h1,MapKept.run_getObj_map hb,MapKept.run_checkKey h2 (h3 κ hs),MapKept.run_findKey h2 g1,hq,g3,MapKept.run_keyThatStays (h3 κ hs),MapKept.run_setObj_map _ hb,Result.andThen,World.putObj]
  ·intro x hx;have:x.born∈(es.toList.modify q fun x=> { x with key:=κ.v,val:=v }).map (·.born):=List.mem_map.2 ⟨x,by rw[←hlist];exact hx,rfl⟩;rw[hborns] at this;obtain⟨y,hy,hyb⟩:=List.mem_map.1 this;rw[←hyb];exact h.stamped.1 y hy
  ·unfold kQ;rw[if_pos g4,hlist,hkeys];exact h.keys
  ·intro k hk;rcases fC.1 hk with rfl|hk
   ·exact hs
   ·exact h.kind k hk
  ·intro x hx k hk;rw[hlist] at hx;obtain⟨i,hi⟩:=List.getElem?_of_mem hx;rw[List.getElem?_modify] at hi;unfold kU;by_cases e1:q=i
   ·subst e1;simp[g2] at hi;subst hi;rw[if_pos (Key.Wy hk).symm];exact hv.vO he hS.lt hf
   ·simp only[e1,if_false] at hi;have hi':es.toList[i]? =some x:=by simpa using hi
    rw[if_neg]
    ·exact(h.rel x (List.mem_of_getElem? hi') k hk).vO he hS.lt (h.free k)
    ·rintro rfl;have hn:=h.stamped.2.2;have a1:(es.toList.map (·.key))[q]? =some k.v:=by rw[List.getElem?_map,g2,Option.map_some,g3]
     have a2:(es.toList.map (·.key))[i]? =some k.v:=by rw[List.getElem?_map,hi',Option.map_some,hk]
     exact e1 ((List.getElem?_inj (by simpa using hlt) hn).1 (a1.trans a2.symm))
end
mutual
def Et(b:Bool):AV->AV->Option AV
 | .d (.v (.bool x)),.d (.v (.bool y))=>some (.d (.v (.bool (cond b x y))))
 | .d (.v (.int k x)),.d (.v (.int k' y))=>if k=k' then some (.d (.v (.int k (cond b x y)))) else none
 | .d (.v (.string x)),.d (.v (.string y))=>some (.d (.v (.string (cond b x y))))
 | .d x,.d y=>some (.d (cond b x y))
 | .op p cs,.d (.v (.pointer none))=>some (.op (b&&p) cs)
 | .el cs,.d (.v (.pointer none))=>some (.op b cs)
 | .agg xs,.agg ys=>(XI b xs ys).map .agg
 |_,_=>none
def XI(b:Bool):List AV->List AV->Option (List AV)
 |[],[]=>some []
 |x::xs,y::ys=>match Et b x y,XI b xs ys with
  |some z,some zs=>some (z::zs)
  |_,_=>none
 |_,_=>none
end
theorem II{b:Bool} : ∀{xs ys zs:List AV},XI b xs ys=some zs->zs.length=xs.length/\zs.length=ys.length/\∀k,k<zs.length->Et b (xs.getD k .undef) (ys.getD k .undef)=some (zs.getD k .undef)
 |[],[],zs,h=>by simp only[XI,Option.some.injEq] at h;subst h;simp
 |[],_::_,zs,h=>by simp[XI] at h
 |_::_,[],zs,h=>by simp[XI] at h
 |x::xs,y::ys,zs,h=>by
  simp only[XI] at h;split at h
  ·rename_i z zs' h1 h2;simp only[Option.some.injEq] at h;subst h;obtain⟨h3,h4,h5⟩:=II h2;refine⟨by simp[h3],by simp[h4],fun k hk=> ?_⟩;cases k with
   |zero=>simpa using h1
   |succ k=>simpa using h5 k (by simpa using hk)
  ·simp at h
theorem XH{w:World}{j:Js}{x:AV}{v:Value}(h:R w j x v): ∀{z y:AV},Et true x z=some y->R w j y v:=by
 induction h with
 |d h=>
  intro z y hm;unfold Et at hm;split at hm<;>simp at hm;all_goals first
   |(rename_i e;cases e;done)
   |(rename_i e;cases e;subst hm;exact .d h)
   |(rename_i e;cases e;obtain⟨_,rfl⟩:=hm;exact .d h)
   |(rename_i e _;cases e;subst hm;exact .d h)
   |(rename_i e _ _;cases e;subst hm;exact .d h)
   |(rename_i e _ _ _;cases e;subst hm;exact .d h)
   |(rename_i e _ _ _ _;cases e;subst hm;exact .d h)
 |op h h0 ih=>
  intro z y hm;unfold Et at hm;split at hm<;>simp at hm;all_goals first
   |(rename_i e;cases e;done)
   |(rename_i e;cases e;subst hm;exact .op h h0)
   |(rename_i e _;cases e;done)
   |(rename_i e _ _;cases e;done)
   |(rename_i e _ _ _;cases e;done)
   |(rename_i e _ _ _ _;cases e;done)
 |el a val ha hlt hb hcell hrel=>
  intro z y hm;unfold Et at hm;split at hm<;>simp at hm;all_goals first
   |(rename_i e;cases e;done)
   |(rename_i e;cases e;subst hm;exact .op (fun _=> .el a val ha hlt hb hcell hrel) (fun h=>by cases h))
   |(rename_i e _;cases e;done)
   |(rename_i e _ _;cases e;done)
   |(rename_i e _ _ _;cases e;done)
   |(rename_i e _ _ _ _;cases e;done)
 |agg vs hs h ih=>
  intro z y hm;unfold Et at hm;split at hm<;>simp at hm;all_goals first
   |(rename_i e;cases e;done)
   |(rename_i e _;cases e;done)
   |(rename_i e _ _;cases e;done)
   |(rename_i e _ _ _;cases e;done)
   |skip
  rename_i e;cases e
  obtain⟨zs,h1,rfl⟩:=hm;obtain⟨h2,h3,h4⟩:=II h1;exact .agg vs (by rw[hs,h2]) fun k hk=>ih k (by omega) (h4 k hk)
 |_=>intro z y hm;simp[Et] at hm
theorem RV{w:World}{j:Js}{z:AV}{v:Value}(h:R w j z v): ∀{x y:AV},Et false x z=some y->R w j y v:=by
 induction h with
 |d h=>
  intro x y hm;unfold Et at hm;split at hm<;>simp at hm;all_goals first
   |(rename_i e;cases e;done)
   |(rename_i e;cases e;subst hm;exact .d h)
   |(rename_i e;cases e;obtain⟨rfl,rfl⟩:=hm;exact .d h)
   |(rename_i e;cases e;subst hm;cases h;exact .op (fun hh=>by cases hh) (fun _=>rfl))
   |(rename_i e _;cases e;subst hm;exact .d h)
   |(rename_i e _ _;cases e;subst hm;exact .d h)
   |(rename_i e _ _ _;cases e;subst hm;exact .d h)
   |(rename_i e _ _ _ _;cases e;subst hm;exact .d h)
 |agg vs hs h ih=>
  intro x y hm;unfold Et at hm;split at hm<;>simp at hm;all_goals first
   |(rename_i e;cases e;done)
   |(rename_i e _;cases e;done)
   |(rename_i e _ _;cases e;done)
   |(rename_i e _ _ _;cases e;done)
   |skip
  rename_i e;cases e
  obtain⟨zs,h1,rfl⟩:=hm;obtain⟨h2,h3,h4⟩:=II h1;exact .agg vs (by rw[hs,h3]) fun k hk=>ih k (by omega) (h4 k hk)
 |_=>
  intro x y hm;unfold Et at hm;split at hm<;>simp_all
def aggD:D->AV
 | .v (.agg vs)=> .agg (vs.toList.map fun v=> .d (.v v))
 |x=> .d x
theorem aggD_of{w:World}{j:Js}{x:D}{v:Value}(h:R w j (.d x) v):R w j (aggD x) v:=by
 unfold aggD;split
 ·rename_i vs;have:=kD h;subst this;refine .agg vs (by simp) fun k hk=> ?_;simp only[List.length_map,Array.length_toList] at hk;have e:(vs.toList.map fun v=>AV.d (.v v)).getD k .undef= .d (.v (vs.getD k Go.undef)):=by
   simp[List.getD_eq_getElem?_getD,Array.getD_eq_getD_getElem?,hk]
  rw[e];exact .d (.v _)
 ·exact h
def LC(P:Program)(t:TypeId)(σ:List aC)(m k:AV)(ok:Bool)(K:AV->Prop):Prop:=
 match m with
 | .mp b=>(match σ[b]? with
  |some (.mp d ks f)=>(match akey k,yH P t with
   |some κ,some (d',z)=>(κ.str==d&&d==d')=true/\(match Et (decide (κ∈ks)) (f κ) z with
    |some y=>K (cond ok (.eX [y,.d (.v (.bool (decide (κ∈ks))))]) y)
    |none=>False)
   |_,_=>False)
  |_=>False)
 | .fm d ks f=>(match akey k,yH P t with
   |some κ,some (d',z)=>(κ.str==d&&d==d')=true/\(match Et (decide (κ∈ks)) (aggD (f κ)) z with
    |some y=>K (cond ok (.eX [y,.d (.v (.bool (decide (κ∈ks))))]) y)
    |none=>False)
   |_,_=>False)
 |_=>False
theorem MapD.is{w:World}{j:Js}{es:Array MapEntry}{cl:Nat}{d:Bool}{ks:List Key}{f:Key->D}(h:MapD w j es cl d ks f):ji w j es cl d ks fun k=> .d (f k):=
 ⟨h.stamped,h.keys,h.kind,fun _=>rfl,fun e hm k hk=> .d (h.rel e hm k hk)⟩
theorem ji.data{w:World}{j:Js}{es:Array MapEntry}{cl:Nat}{d:Bool}{ks:List Key}{f:Key->D}(h:ji w j es cl d ks fun k=> .d (f k)):MapD w j es cl d ks f:=
 ⟨h.stamped,h.keys,h.kind,fun e hm k hk=>by cases h.rel e hm k hk with|d h=>exact h⟩
theorem UR{P:Program}{g:Bool}{t:TypeId}{s:St}{m k:AV}{ok:Bool}{K:AV->Prop}(h:LC P t s.σ m k ok K){x y:Operand}(hx:Arg g s x m)(hy:Arg g s y k): ∃av,K av/\Bz P g s (.lookup t x y ok) av:=by
 unfold LC at h;split at h
 ·rename_i b;split at h
  ·rename_i d ks f hb;split at h
   ·rename_i κ d' z hk ht;obtain⟨hd,h⟩:=h;simp only[Bool.and_eq_true,beq_iff_eq] at hd;obtain⟨hd1,rfl⟩:=hd;split at h
    ·rename_i av hm;refine⟨_,h,fun hg j0 j a w o ho hrel=> ?_⟩;have h1:=hx hg j0 j a w hrel;have h2:=hy hg j0 j a w hrel;rw[Wh hk] at h2;replace h2:=kD h2
     generalize hv:a.eval x=u at h1
     cases h1 with
     | @mp _ cb hj=>
      obtain⟨o',ho',hB⟩:=hrel.cZ.blk b _ hb;rw[hj] at ho';cases ho'
      obtain⟨es,cl,g1,g2⟩:=hB;obtain⟨v,g3,g4,g5⟩:=OC (P:=P) g2 g1 ht hd1 ok;have hr:R w j av v:=by
       by_cases hin:κ∈ks
       ·rw[decide_eq_true hin] at hm;exact XH (g4 hin) hm
       ·rw[decide_eq_false hin] at hm;exact RV (g5 hin) hm
      refine⟨_,by simp only[execOp,ho,hv,h2];exact gW g3,?_⟩;cases ok with
      |false=>exact hr
      |true=>
       refine .eX _ (by simp) fun k hk=> ?_;match k,hk with
       |0,_=>exact hr
       |1,_=>exact .d (.v _)
       |k+2,hk=>simp at hk;omega
    ·exact h.elim
   ·exact h.elim
  ·exact h.elim
 ·rename_i d ks f;split at h
  ·rename_i κ d' z hk ht;obtain⟨hd,h⟩:=h;simp only[Bool.and_eq_true,beq_iff_eq] at hd;obtain⟨hd1,rfl⟩:=hd;split at h
   ·rename_i av hm;refine⟨_,h,fun hg j0 j a w o ho hrel=> ?_⟩;have h1:=hx hg j0 j a w hrel;have h2:=hy hg j0 j a w hrel;rw[Wh hk] at h2;replace h2:=kD h2
    generalize hv:a.eval x=u at h1
    cases h1 with
    |fm c cl es hlt hb xB hmd=>
     obtain⟨v,g3,g4,g5⟩:=OC (P:=P) hmd.is xB ht hd1 ok;have hr:R w j av v:=by
      by_cases hin:κ∈ks
      ·rw[decide_eq_true hin] at hm;exact XH (aggD_of (g4 hin)) hm
      ·rw[decide_eq_false hin] at hm;exact RV (g5 hin) hm
     refine⟨_,by simp only[execOp,ho,hv,h2];exact gW g3,?_⟩;cases ok with
     |false=>exact hr
     |true=>
      refine .eX _ (by simp) fun k hk=> ?_;match k,hk with
      |0,_=>exact hr
      |1,_=>exact .d (.v _)
      |k+2,hk=>simp at hk;omega
   ·exact h.elim
  ·exact h.elim
 ·exact h.elim
theorem N8{l:List MapEntry}{e:MapEntry}(hn:(l.map (·.born)).Nodup)(he:e∈l):l.Perm (e::l.filter fun x=>x.born !=e.born):=by
 induction l with
 |nil=>cases he
 |cons x l ih=>
  simp only[List.map_cons,List.nodup_cons] at hn;by_cases hx:x=e
  ·subst hx;have h1:(x::l).filter (fun y=>y.born !=x.born)=l:=by
    rw[List.filter_cons_of_neg (by simp)];apply List.filter_eq_self.2;intro y hy;simp only[bne_iff_ne,ne_eq];intro hb;exact hn.1 (List.mem_map.2 ⟨y,hy,hb⟩)
   rw[h1]
  ·have he':e∈l:=by
    rcases List.mem_cons.1 he with h|h
    ·exact absurd h.symm hx
    ·exact h
   have hb:x.born≠e.born:=fun hb=>hn.1 (List.mem_map.2 ⟨e,he',hb.symm⟩);rw[List.filter_cons_of_pos (by simpa using hb)];exact((ih hn.2 he').cons x).trans (List.Perm.swap ..)
theorem XT(es:Array MapEntry)(seen:Array Nat)(b:Nat):(leftOf es (seen.push b)).toList=(leftOf es seen).toList.filter fun x=>x.born !=b:=by
 simp only[leftOf,Array.toList_filter,List.filter_filter];apply List.filter_congr;intro x _;by_cases h:x.born=b
 ·simp[h]
 ·simp[h]
def OQ(left:List Key)(cur:Option Key)(f:Key->AV):Option Key->aC
 |none=> .it left cur f
 |some k=> .it (left.erase k) (some k) f
def JG(f:Key->AV):Option Key->List AV
 |none=>[]
 |some k=>[.d (.v k.v),f k]
theorem next_run{P:Program}{w:World}{j:Js}{σ:List aC}(hS:aS w j σ){b:Nat}{left:List Key}{cur:Option Key}{f:Key->AV}(hb:σ[b]? =some (.it left cur f)){v:Value}(hv:R w j (.ptr b 0) v)(ty:TypeId):
  ∃(o:Option Key) (w':World) (u:Value),(Instr.next v false ty).run P w= .ok u w'/\(o=none->left=[])/\(∀k,o=some k->k∈left)/\aS w' j (σ.set b (OQ left cur f o))/\Ev j w j w'/\R w' j (.eX (.d (.v (.bool o.isSome))::JG f o)) u:=by
 cases hv with
 | @ptr _ _ cb hj=>
 obtain⟨o',ho',hB⟩:=hS.blk b _ hb;rw[hj] at ho';cases ho'
 obtain⟨mb,es,cl,seen,h1,h2⟩:=hB;have hm:some cb∈j:=List.mem_of_getElem? hj;rcases run_next_at (P:=P) w ty cb mb cl cl seen es cl h1 h2.heap (fun x hx=>h2.stamped.1 x hx) (Nat.le_refl _) with⟨g1,g2⟩|⟨e,he,w1,hw1,g2⟩
 ·refine⟨none,w,_,g2,fun _=> ?_,fun k hk=>(by cases hk),?_,.refl _ _,?_⟩
  ·have h0:(leftOf es seen).toList=[]:=by
    apply List.eq_nil_of_length_eq_zero;simpa using g1
   have:=h2.keys;rw[h0] at this;simpa using this.symm.eq_nil
  ·simp only[OQ];rw[set_self hb];exact hS
  ·refine .eX _ (by simp[JG]) fun k hk=> ?_;simp only[JG,List.length_singleton,Nat.lt_one_iff] at hk;subst hk;exact .d (.v _)
 ·have hel:e.key∈left.map Key.v:=h2.keys.mem_iff.1 (List.mem_map.2 ⟨e,he,rfl⟩);obtain⟨k,hk,hkv⟩:=List.mem_map.1 hel;have hee:e∈es.toList:=by
   simp only[leftOf,Array.toList_filter,List.mem_filter] at he;exact he.1
  have hst:ChangeMaps.setBlock w1 cb (.mapIter (some mb) cl (seen.push e.born) cl)=w1.putObj cb (.mapIter (some mb) cl (seen.push e.born) cl):=rfl;rw[hst] at g2;have he1:Ev j w j w1:=by rcases hw1 with rfl|rfl;exact .refl _ _;exact gY _ _
  have hS1:aS w1 j σ:=by rcases hw1 with rfl|rfl;exact hS;exact hS.drew
  have h1':w1.heap[cb]? =some (.mapIter (some mb) cl seen cl):=by rcases hw1 with rfl|rfl<;>exact h1
  have hlt:cb<w1.heap.size:=(Array.getElem?_eq_some_iff.1 h1').1;have hnew:(w1.putObj cb (.mapIter (some mb) cl (seen.push e.born) cl)).heap[cb]? =some (.mapIter (some mb) cl (seen.push e.born) cl):=World.putObj_heap_same hlt;have hold: ∀q,q≠cb->(w1.putObj cb (.mapIter (some mb) cl (seen.push e.born) cl)).heap[q]? =w1.heap[q]? :=fun q hne=>World.putObj_heap_other hne;have he2:Ev j w1 j (w1.putObj cb (.mapIter (some mb) cl (seen.push e.born) cl)):=by
   refine⟨by simp,fun q hq hn=>hold q (fun e=>hn (by rw[e];exact hm)),fun _ _ h=>h,fun q hq=> ?_,fun a ha=> ?_,rfl,rfl,rfl,fun q r hr=> ?_⟩
   ·by_cases e1:q=cb
    ·subst e1;simp[World.shape?,hnew,h1']
    ·simp[World.shape?,hold q e1]
   ·by_cases e1:a.block=cb
    ·simp[World.frozen?,e1,hnew,h1']
    ·simp[World.frozen?,hold _ e1]
   ·have e1:q≠cb:=fun e1=>by rw[e1,h1'] at hr;cases hr
    exact⟨r,by rw[hold q e1];exact hr⟩
  have hI:sJ (w1.putObj cb (.mapIter (some mb) cl (seen.push e.born) cl)) j mb es cl (seen.push e.born) (left.erase k) (some k) f:=by
   have hI1:=(h2.mono he1 hS.lt).mono he2 hS1.lt;refine⟨hI1.lt,hI1.own,hI1.heap,hI1.stamped,?_,fun k' hk'=> ?_,hI1.free,hI1.rel⟩
   ·rw[XT];have hnd:((leftOf es seen).toList.map (·.born)).Nodup:=by
     simp only[leftOf,Array.toList_filter];exact h2.stamped.2.1.sublist ((List.filter_sublist).map _)
    have p1:=(N8 hnd he).map (·.key);have p2:=(List.perm_cons_erase hk).map Key.v;have p3:=(p1.symm.trans h2.keys).trans p2;simp only[List.map_cons,hkv] at p3;exact p3.cons_inv
   ·cases hk'
    exact⟨e,hee,hkv.symm,seen,rfl⟩
  refine⟨some k,_,_,g2,fun h=>(by cases h),fun k' hk'=>(by cases hk';exact hk),?_,he1.trans he2,?_⟩
  ·exact hS1.setObj hj he2 ⟨mb,es,cl,_,hnew,hI⟩
  ·refine .eX _ (by simp[JG]) fun q hq=> ?_;match q,hq with
   |0,_=>exact .d (.v _)
   |1,_=>rw[←hkv];exact .d (.v _)
   |2,_=>exact((h2.rel e hee k hkv.symm).vO he1 hS.lt (h2.free k)).vO he2 hS1.lt (h2.free k)
   |q+3,hq=>simp[JG] at hq;omega
theorem entry_run{P:Program}{w:World}{j:Js}{σ:List aC}(hS:aS w j σ){b:Nat}{left:List Key}{k:Key}{f:Key->AV}(hb:σ[b]? =some (.it left (some k) f)){v:Value}(hv:R w j (.ptr b 0) v):
  ∃u,(Instr.entry v).run P w= .ok u w/\R w j (.eX [.d (.v k.v),f k]) u:=by
 cases hv with
 | @ptr _ _ cb hj=>
 obtain⟨o',ho',hB⟩:=hS.blk b _ hb;rw[hj] at ho';cases ho'
 obtain⟨mb,es,cl,seen,h1,h2⟩:=hB;obtain⟨e,he,hk,sn,rfl⟩:=h2.cur k rfl;refine⟨_,run_entry_at w cb mb cl sn es cl e h1 h2.heap he h2.stamped.2.1,?_⟩;refine .eX _ (by simp) fun q hq=> ?_;match q,hq with
 |0,_=>rw[←hk];exact .d (.v _)
 |1,_=>exact h2.rel e he k hk
 |q+2,hq=>simp at hq;omega
theorem range_run{P:Program}{w:World}{j:Js}{σ:List aC}(hS:aS w j σ){b:Nat}{d:Bool}{ks:List Key}{f:Key->AV}(hb:σ[b]? =some (.mp d ks f)){v:Value}(hv:R w j (.mp b) v){t:TypeId}{z:AV}(ht:yH P t=some (d,z)):
  ∃w' j',(Instr.range t v).run P w= .ok (.pointer (some ⟨w.heap.size,0,none⟩)) w'/\aS w' j' ((σ.map (bW [b])).set b (.it ks none f))/\Ev j w j' w'/\j.length<=j'.length/\Ag j j' [b]/\R w' j' (.ptr b 0) (.pointer (some ⟨w.heap.size,0,none⟩)):=by
 obtain⟨kt,et,kd,zz,h1,h2,h3,rfl,h5⟩:=qM ht;cases hv with
 | @mp _ cb hj=>
 obtain⟨o',ho',hB⟩:=hS.blk b _ hb;rw[hj] at ho';cases ho'
 obtain⟨es,cl,g1,g2⟩:=hB;have hbj:b<j.length:=(List.getElem?_eq_some_iff.1 hj).1;have hlt:=hS.lt b cb hj;have hnew:(w.alloc (.mapIter (some cb) cl #[] cl)).heap[w.heap.size]? =some (.mapIter (some cb) cl #[] cl):=heap_alloc_new w _;have hown:some cb∉j.set b (some w.heap.size):=by
  intro hm;obtain⟨q,hq⟩:=List.getElem?_of_mem hm;rw[List.getElem?_set] at hq;split at hq
  ·simp at hq;omega
  ·rename_i e;exact e (hS.inj _ _ _ hj hq)
 have he:Ev j w (j.set b (some w.heap.size)) (w.alloc (.mapIter (some cb) cl #[] cl)):=vV _ _ _ _ (fun q hq hm=>by
  rcases List.mem_or_eq_of_mem_set hm with hm|hm
  ·exact hm
  ·simp at hm;omega)
 obtain⟨r1,r2,r3⟩:=hS.movedO (b:=b) hbj (ob:= .mapIter (some cb) cl #[] cl) (x:= .it ks none f) ⟨cb,es,cl,#[],hnew,by simp;omega,hown,by rw[bV w _ hlt];exact g1,g2.stamped,by
  have:leftOf es #[]=es:=by simp[leftOf]
  rw[this];exact g2.keys,fun k hk=>by(cases hk),g2.free,fun e hm k hk=>(g2.rel e hm k hk).vO he hS.lt (g2.free k)⟩
 refine⟨_,_,run_range_map w t kt et cb es cl h1 g1,r1,r2,by simp,r3,.ptr ?_⟩;rw[List.getElem?_set];simp[hbj]
theorem XK{w:World}{j:Js}{σ:List aC}(hS:aS w j σ)(d:Bool):
  aS (w.alloc (.map #[] 0)) (j++[some w.heap.size]) (σ++[.mp d [] fun _=> .undef])/\Ev j w (j++[some w.heap.size]) (w.alloc (.map #[] 0))/\R (w.alloc (.map #[] 0)) (j++[some w.heap.size]) (.mp σ.length) (.map (some w.heap.size)):=by
 obtain⟨h1,h2⟩:=hS.allocN (.map #[] 0) (.mp d [] fun _=> .undef) ⟨#[],0,heap_alloc_new w _,MapKept.stamped_empty 0,by simp,by simp,fun _=>rfl,by simp⟩;refine⟨h1,h2,.mp ?_⟩;rw[List.getElem?_append_right (by rw[hS.len];omega)];simp[hS.len]
def Vk(σ:List aC)(x:AV)(K:AV->Prop):Prop:=
 match x with
 | .ptr b 0=>(match σ[b]? with
  |some (.it _ (some k) f)=>K (.eX [.d (.v k.v),f k])
  |_=>False)
 |_=>False
theorem YJ{P:Program}{g:Bool}{s:St}{m:AV}{K:AV->Prop}(h:Vk s.σ m K){x:Operand}(hx:Arg g s x m): ∃av,K av/\Bz P g s (.entry x) av:=by
 unfold Vk at h;split at h
 ·split at h
  ·rename_i hb;refine⟨_,h,fun hg j0 j a w o ho hrel=> ?_⟩;obtain⟨u,h1,h2⟩:=entry_run (P:=P) hrel.cZ hb (hx hg j0 j a w hrel);exact⟨u,by simp only[execOp,ho];exact gW h1,h2⟩
  ·exact h.elim
 ·exact h.elim
def updA(P:Program)(t:TypeId)(σ:List aC)(m k v:AV)(K:List aC->Prop):Prop:=
 match m with
 | .mp b=>(match σ[b]? with
  |some (.mp d ks f)=>(match akey k,yH P t with
   |some κ,some (d',_)=>(κ.str==d&&d==d'&&v.free)=true/\K (σ.set b (.mp d (kQ κ ks) (kU f κ v)))
   |_,_=>False)
  |_=>False)
 |_=>False
theorem Rf{P:Program}{w:World}{j:Js}{σ:List aC}(hS:aS w j σ){t:TypeId}{m k v:AV}{vm vk vv:Value}{K:List aC->Prop}(h:updA P t σ m k v K)(hm:R w j m vm)(hk:R w j k vk)(hv:R w j v vv):
  ∃w' σ',(Instr.mapUpdate t vm vk vv).run P w= .ok () w'/\aS w' j σ'/\Ev j w j w'/\K σ':=by
 unfold updA at h;split at h
 ·rename_i b;split at h
  ·rename_i d ks f hb;split at h
   ·rename_i κ d' z hκ ht;obtain⟨hd,hK⟩:=h;simp only[Bool.and_eq_true,beq_iff_eq] at hd;obtain⟨⟨hd1,rfl⟩,hf⟩:=hd;rw[Wh hκ] at hk;rw[kD hk];cases hm with
    | @mp _ cb hj=>
    obtain⟨o',ho',hB⟩:=hS.blk b _ hb;rw[hj] at ho';cases ho'
    obtain⟨es,cl,g1,g2⟩:=hB;obtain⟨es',cl',g3,g4⟩:=ZJ (P:=P) hS hj g2 g1 ht hd1 hv hf;have he:Ev j w j (w.putObj cb (.map es' cl')):=mg g1 (List.mem_of_getElem? hj);exact⟨_,_,g3,hS.setObj (x:= .mp d (kQ κ ks) (kU f κ v)) hj he ⟨es',cl',World.putObj_heap_same (hS.lt b cb hj),g4⟩,he,hK⟩
   ·exact h.elim
  ·exact h.elim
 ·exact h.elim
def aaj(P:Program)(t:TypeId)(σ:List aC)(m:AV)(K:Nat->List aC->Prop):Prop:=
 match m with
 | .mp b=>(match σ[b]? with
  |some (.mp d ks f)=>(match yH P t with
   |some (d',_)=>(d==d')=true/\K b ((σ.map (bW [b])).set b (.it ks none f))
   |none=>False)
  |_=>False)
 | .fm d ks f=>(match yH P t with
  |some (d',_)=>(d==d')=true/\K σ.length (σ++[.it ks none fun k=> .d (f k)])
  |none=>False)
 |_=>False
theorem aai{P:Program}{w:World}{j:Js}{σ:List aC}(hS:aS w j σ){d:Bool}{ks:List Key}{f:Key->D}{v:Value}(hv:R w j (.fm d ks f) v){t:TypeId}{z:AV}(ht:yH P t=some (d,z)):
  ∃w' j',(Instr.range t v).run P w= .ok (.pointer (some ⟨w.heap.size,0,none⟩)) w'/\aS w' j' (σ++[.it ks none fun k=> .d (f k)])/\Ev j w j' w'/\j.length<=j'.length/\Ag j j' [σ.length]/\R w' j' (.ptr σ.length 0) (.pointer (some ⟨w.heap.size,0,none⟩)):=by
 obtain⟨kt,et,kd,zz,h1,h2,h3,rfl,h5⟩:=qM ht;cases hv with
 |fm c cl es hlt hb xB hmd=>
 have he:Ev j w (j++[some w.heap.size]) (w.alloc (.mapIter (some c) cl #[] cl)):=vV _ _ _ _ (fun q hq hm=>by
  simp only[List.mem_append,List.mem_singleton,Option.some.injEq] at hm;rcases hm with hm|hm
  ·exact hm
  ·omega)
 obtain⟨r1,r2⟩:=hS.allocN (.mapIter (some c) cl #[] cl) (.it ks none fun k=> .d (f k)) ⟨c,es,cl,#[],heap_alloc_new w _,by simp;omega,fun hm=>hb (by
  simp only[List.mem_append,List.mem_singleton,Option.some.injEq] at hm;rcases hm with hm|hm
  ·exact hm
  ·omega),by rw[bV w _ hlt];exact xB,hmd.stamped,by
  have:leftOf es #[]=es:=by simp[leftOf]
  rw[this];exact hmd.keys,fun k hk=>by(cases hk),fun _=>rfl,fun e hm k hk=> .d ((hmd.rel e hm k hk).mono he)⟩
 refine⟨_,_,run_range_map w t kt et c es cl h1 xB,r1,r2,by simp,fun q hq hn=>by rw[List.getElem?_append_left hq],.ptr ?_⟩;rw[List.getElem?_append_right (by rw[hS.len];omega)];simp[hS.len]
def nextA(σ:List aC)(x:AV)(K:AV->List aC->Prop):Prop:=
 match x with
 | .ptr b 0=>(match σ[b]? with
  |some (.it left cur f)=> ∀o:Option Key,(o=none->left=[])->(∀k,o=some k->k∈left)->K (.eX (.d (.v (.bool o.isSome))::JG f o)) (σ.set b (OQ left cur f o))
  |_=>False)
 |_=>False
section
variable {P : Program} {w : World} {j : Js} {es : Array MapEntry} {cl : Nat} {d : Bool} {ks : List Key} {f : Key -> AV}
theorem WY(hs:MapKept.Stamped es cl){q:Nat}{e:MapEntry}(h:es.toList[q]? =some e){κ:Key}(hk:e.key=κ.v):Hu es κ e.born:=by
 have hq:es[q]? =some e:=by simpa using h
 have hlt:q<es.size:=(Array.getElem?_eq_some_iff.1 hq).1;cases hf:es.findIdx? (fun x=>(x.born:Int)==(e.born:Int)) with
 |none=>
  exfalso;rw[Array.findIdx?_eq_none_iff] at hf;have:=hf e (Array.mem_of_getElem? hq);simp at this
 |some i=>
  obtain⟨hi,h1,_⟩:=Array.findIdx?_eq_some_iff_getElem.1 hf;have hb:(es[i]).born=e.born:=by
   have h1':((es[i]).born:Int)=(e.born:Int):=by simpa using h1
   omega
  have a1:(es.toList.map (·.born))[i]? =some e.born:=by simp[hi,hb]
  have a2:(es.toList.map (·.born))[q]? =some e.born:=by simp[h]
  have e1:i=q:=(List.getElem?_inj (by simpa using hi) hs.2.1).1 (a1.trans a2.symm);subst e1;exact⟨i,e,hf,hq,hk⟩
theorem entry_put{σ:List aC}(hS:aS w j σ){b cb:Nat}(hj:j[b]? =some (some cb))(h:ji w j es cl d ks f)(hb:w.heap[cb]? =some (.map es cl)){t:TypeId}{z:AV}(ht:yH P t=some (d,z)){κ:Key}(hs:κ.str=d):
  ∃(q:Nat) (v:Value) (es':Array MapEntry) (cl':Nat),(Instr.mapEntry t (.map (some cb)) κ.v).run P w= .ok (.tuple #[v,.int .i64 q]) (w.putObj cb (.map es' cl'))/\ji (w.putObj cb (.map es' cl')) j es' cl' d (kQ κ ks) (kU f κ .undef)/\Hu es' κ q:=by
 obtain⟨kt,et,kd,zz,h1,h2,h3,rfl,h5⟩:=qM ht;have hm:some cb∈j:=List.mem_of_getElem? hj;have hfree: ∀k,(kU f κ .undef k).free=true:=fun k=>by unfold kU;split;rfl;exact h.free k
 rcases h.look h3 hs with⟨g1,g2⟩|⟨q,e,g1,g2,g3,g4,g5⟩
 ·have hne: ∀x∈es.toList,x.key≠κ.v:=fun x hx hk=>g2 (h.mem.2 ⟨x,hx,hk⟩);have he:Ev j w j (w.putObj cb (.map (es.push ⟨κ.v,zz,cl⟩) (cl+1))):=mg hb hm;have hst:MapKept.Stamped (es.push ⟨κ.v,zz,cl⟩) (cl+1):=MapKept.stamped_push h.stamped hne;refine⟨cl,zz,es.push ⟨κ.v,zz,cl⟩,cl+1,?_,⟨hst,?_,?_,hfree,?_⟩,WY (q:=es.size) (e:=⟨κ.v,zz,cl⟩) hst (by simp) rfl⟩
  ·simp[Instr.mapEntry,run_underlying h1,MapKept.run_getObj_map hb,MapKept.run_checkKey h2 (h3 κ hs),MapKept.run_findKey h2 g1,h5,MapKept.run_setObj_map _ hb,Result.andThen,World.putObj,goInt]
  ·unfold kQ;rw[if_neg g2];simp only[Array.toList_push,List.map_append,List.map_cons,List.map_nil];exact h.keys.append_right _
  ·intro k hk;rcases fC.1 hk with rfl|hk
   ·exact hs
   ·exact h.kind k hk
  ·intro x hx k hk;simp only[Array.toList_push,List.mem_append,List.mem_singleton] at hx;unfold kU;rcases hx with hx|rfl
   ·rw[if_neg (fun e=>hne x hx (by rw[hk,e]))];exact(h.rel x hx k hk).vO he hS.lt (h.free k)
   ·rw[if_pos (Key.Wy hk).symm];exact .undef _
 ·have hlt:q<es.toList.length:=(List.getElem?_eq_some_iff.1 g2).1;have hq:es[q]? =some e:=by simpa using g2
  have hid:(es.modify q fun x=> { x with key:=κ.v })=es:=by
   apply Array.ext_getElem?;intro i;rw[Array.getElem?_modify];split
   ·rename_i e1;subst e1;rw[hq,Option.map_some,←g3]
   ·rfl
  have he:Ev j w j (w.putObj cb (.map es cl)):=mg hb hm;refine⟨e.born,e.val,es,cl,?_,⟨h.stamped,by unfold kQ;rw[if_pos g4];exact h.keys,?_,hfree,?_⟩,WY h.stamped g2 g3⟩
  ·simp[Instr.mapEntry,run_underlying h1,MapKept.run_getObj_map hb,MapKept.run_checkKey h2 (h3 κ hs),MapKept.run_findKey h2 g1,hq,g3,MapKept.run_keyThatStays (h3 κ hs),MapKept.run_setObj_map _ hb,Result.andThen,World.putObj,goInt];rw[hid]
  ·intro k hk;rcases fC.1 hk with rfl|hk
   ·exact hs
   ·exact h.kind k hk
  ·intro x hx k hk;unfold kU;split
   ·exact .undef _
   ·exact(h.rel x hx k hk).vO he hS.lt (h.free k)
theorem entry_set{σ:List aC}(hS:aS w j σ){b cb:Nat}(hj:j[b]? =some (some cb))(h:ji w j es cl d ks f)(hb:w.heap[cb]? =some (.map es cl)){κ:Key}{q:Nat}(hq:Hu es κ q){t:TypeId}{av:AV}{v:Value}(hv:R w j av v)(hf:av.free=true):
  ∃es':Array MapEntry,(Instr.entryStore t (.map (some cb)) (.int .i64 q) v).run P w= .ok () (w.putObj cb (.map es' cl))/\ji (w.putObj cb (.map es' cl)) j es' cl d ks (kU f κ av):=by
 obtain⟨i,e,k1,k2,k3⟩:=hq;have hm:some cb∈j:=List.mem_of_getElem? hj;have hfree: ∀k,(kU f κ av k).free=true:=fun k=>by unfold kU;split;exact hf;exact h.free k
 have he:Ev j w j (w.putObj cb (.map (es.modify i fun x=> { x with val:=v }) cl)):=mg hb hm;have hlist:(es.modify i fun x=> { x with val:=v }).toList=es.toList.modify i fun x=> { x with val:=v } :=Array.toList_modify ..;have k2':es.toList[i]? =some e:=by simpa using k2
 have hkeys:(es.toList.modify i fun x=> { x with val:=v }).map (·.key)=es.toList.map (·.key):=by
  apply List.ext_getElem?;intro p;simp only[List.getElem?_map,List.getElem?_modify];by_cases e1:i=p
  ·subst e1;simp[k2']
  ·simp[e1]
 refine⟨es.modify i fun x=> { x with val:=v },?_,⟨MapKept.stamped_modify h.stamped _ _ (fun _ _=>rfl) (fun _ _ _=>rfl),by rw[hlist,hkeys];exact h.keys,h.kind,hfree,?_⟩⟩
 ·simp[Instr.entryStore,MapKept.run_getObj_map hb,asInt,asIntOf,k1,MapKept.run_setObj_map _ hb,Result.andThen,World.putObj]
 ·intro x hx k hk;rw[hlist] at hx;obtain⟨p,hp⟩:=List.getElem?_of_mem hx;rw[List.getElem?_modify] at hp;unfold kU;by_cases e1:i=p
  ·subst e1;simp[k2'] at hp;subst hp;rw[if_pos (Key.Wy (show k.v=κ.v by rw[←hk];exact k3))];exact hv.vO he hS.lt hf
  ·simp only[e1,if_false] at hp;have hp':es.toList[p]? =some x:=by simpa using hp
   rw[if_neg]
   ·exact(h.rel x (List.mem_of_getElem? hp') k hk).vO he hS.lt (h.free k)
   ·rintro rfl;have a1:(es.toList.map (·.key))[i]? =some k.v:=by rw[List.getElem?_map,k2',Option.map_some,k3]
    have a2:(es.toList.map (·.key))[p]? =some k.v:=by rw[List.getElem?_map,hp',Option.map_some,hk]
    have hlt:i<es.toList.length:=(List.getElem?_eq_some_iff.1 k2').1;exact e1 ((List.getElem?_inj (by simpa using hlt) h.stamped.2.2).1 (a1.trans a2.symm))
end
def entA(P:Program)(t:TypeId)(σ:List aC)(m k:AV)(K:AV->List aC->Prop):Prop:=
 match m with
 | .mp b=>(match σ[b]? with
  |some (.mp d ks f)=>(match akey k,yH P t with
   |some κ,some (d',_)=>(κ.str==d&&d==d')=true/\∀q:Nat,K (.eX [.undef,.d (.v (.int .i64 q))]) (σ.set b (.QH d (kQ κ ks) (kU f κ .undef) κ q))
   |_,_=>False)
  |_=>False)
 |_=>False
def estA(σ:List aC)(m s v:AV)(K:List aC->Prop):Prop:=
 match m,s with
 | .mp b,.d (.v (.int .i64 x))=>(match σ[b]? with
  |some (.QH d ks f κ q)=>(decide (x=(q:Int))&&v.free)=true/\K (σ.set b (.mp d ks (kU f κ v)))
  |_=>False)
 |_,_=>False
theorem SS{P:Program}{w:World}{j:Js}{σ:List aC}(hS:aS w j σ){t:TypeId}{m k:AV}{vm vk:Value}{K:AV->List aC->Prop}(h:entA P t σ m k K)(hm:R w j m vm)(hk:R w j k vk):
  ∃v w' r σ',(Instr.mapEntry t vm vk).run P w= .ok v w'/\aS w' j σ'/\R w' j r v/\Ev j w j w'/\K r σ':=by
 unfold entA at h;split at h
 ·rename_i b;split at h
  ·rename_i d ks f hb;split at h
   ·rename_i κ d' z hκ ht;obtain⟨hd,hK⟩:=h;simp only[Bool.and_eq_true,beq_iff_eq] at hd;obtain⟨hd1,rfl⟩:=hd;rw[Wh hκ] at hk;rw[kD hk];cases hm with
    | @mp _ cb hj=>
    obtain⟨o',ho',hB⟩:=hS.blk b _ hb;rw[hj] at ho';cases ho'
    obtain⟨es,cl,g1,g2⟩:=hB;obtain⟨q,v,es',cl',g3,g4,g5⟩:=entry_put (P:=P) hS hj g2 g1 ht hd1;have he:Ev j w j (w.putObj cb (.map es' cl')):=mg g1 (List.mem_of_getElem? hj);refine⟨_,_,_,_,g3,hS.setObj (x:= .QH d (kQ κ ks) (kU f κ .undef) κ q) hj he ⟨es',cl',World.putObj_heap_same (hS.lt b cb hj),g4,g5⟩,.eX _ (by simp) (fun p hp=> ?_),he,hK q⟩;rcases p with _|_|p
    ·exact .undef _
    ·exact .d (.v _)
    ·simp only[List.length_cons,List.length_nil] at hp;omega
   ·exact h.elim
  ·exact h.elim
 ·exact h.elim
theorem SN{P:Program}{w:World}{j:Js}{σ:List aC}(hS:aS w j σ){t:TypeId}{m s v:AV}{vm vs vv:Value}{K:List aC->Prop}(h:estA σ m s v K)(hm:R w j m vm)(hs:R w j s vs)(hv:R w j v vv):
  ∃w' σ',(Instr.entryStore t vm vs vv).run P w= .ok () w'/\aS w' j σ'/\Ev j w j w'/\K σ':=by
 unfold estA at h;split at h
 ·rename_i b x;split at h
  ·rename_i d ks f κ q hb;obtain⟨hd,hK⟩:=h;simp only[Bool.and_eq_true,decide_eq_true_eq] at hd;obtain⟨rfl,hf⟩:=hd;rw[kD hs];cases hm with
   | @mp _ cb hj=>
   obtain⟨o',ho',hB⟩:=hS.blk b _ hb;rw[hj] at ho';cases ho'
   obtain⟨es,cl,g1,g2,g3⟩:=hB;obtain⟨es',g4,g5⟩:=entry_set (P:=P) (t:=t) hS hj g2 g1 g3 hv hf;have he:Ev j w j (w.putObj cb (.map es' cl)):=mg g1 (List.mem_of_getElem? hj);exact⟨_,_,g4,hS.setObj (x:= .mp d ks (kU f κ v)) hj he ⟨es',cl,World.putObj_heap_same (hS.lt b cb hj),g5⟩,he,hK⟩
  ·exact h.elim
 ·exact h.elim
def byteOf:List D->Int
 |[.v (.int .u8 z)]=>z
 |_=>0
def isU8:List D->Bool
 |[.v (.int .u8 _)]=>true
 |_=>false
def jY(n:Nat)(row:Nat->List D):ByteArray:=strOfNums ((List.range n).map fun i=>byteOf (row i))
def strRow(b:ByteArray)(i:Nat):List D:=[.v (.int .u8 ((b[i]?).getD 0).toNat)]
def lT(P:Program)(t:TypeId):Option TypeId:=
 match P.underlying t with
 |some (.slice e)=>(match P.underlying e with
  |some (.int .u8)=>some e
  |_=>none)
 |_=>none
theorem JZ{P:Program}{t e:TypeId}(h:lT P t=some e):P.underlying t=some (.slice e)/\P.underlying e=some (.int .u8):=by
 unfold lT at h;split at h
 ·split at h
  ·simp only[Option.some.injEq] at h;subst h;exact⟨by assumption,by assumption⟩
  ·cases h
 ·cases h
theorem X3{l:List D}(h:isU8 l=true):l=[.v (.int .u8 (byteOf l))]:=by
 unfold isU8 at h;split at h
 ·rfl
 ·cases h
def yR(P:Program)(src dst:TypeId)(σ:List aC)(x:AV)(K:AV->Prop):Prop:=
 ((lT P src).isSome&&yF P dst)=true/\(match x with
 | .d (.sl _ sz n row)=>Nat.beq sz 1=true/\(∀i,i<n->isU8 (row i)=true)/\K (.d (.v (.string (jY n row))))
 | .ms b sz lo n=>(match σ[b]? with
  |some (.arr sz' n' row)=>(Nat.beq sz 1&&Nat.beq sz' 1)=true/\lo+n<=n'/\(∀i,i<n->isU8 (row (lo+i))=true)/\K (.d (.v (.string (jY n fun i=>row (lo+i)))))
  |_=>False)
 |_=>False)
theorem WT{P:Program}{t:TypeId}(h:yF P t=true):P.underlying t=some .string:=by
 unfold yF at h;split at h<;>simp_all
theorem Y6(row:Nat->List D):jY 0 row=ByteArray.empty:=rfl
theorem wL{P:Program}(w:World)(src dst e:TypeId)(hs:P.underlying src=some (.slice e))(he:P.underlying e=some (.int .u8))(hd:P.underlying dst=some .string)(p:Option Addr)(c:Nat)(row:Nat->List D):
  (convert src dst (.slice p 0 c)).run P w= .ok (.string (jY 0 row)) w:=by
 rw[run_convert_bytes_string w src dst e p 0 c hs he hd,Y6];cases p with
 |none=>simp[Conv.bytesToString]
 |some a=>exact run_bytesToString w a 0 c [] (by simp[loadCells,loadCellsFrom])
theorem WA{P:Program}{w:World}{j:Js}{σ:List aC}(hS:aS w j σ){src dst:TypeId}{x:AV}{v:Value}{K:AV->Prop}(h:yR P src dst σ x K)(hr:R w j x v):
  ∃b,(∀K,yR P src dst σ x K->K (.d (.v (.string b))))/\(convert src dst v).run P w= .ok (.string b) w:=by
 unfold yR at h;obtain⟨hT,h⟩:=h;simp only[Bool.and_eq_true,Option.isSome_iff_exists] at hT;obtain⟨⟨e,hb⟩,hd⟩:=hT;obtain⟨hs,he⟩:=JZ hb;have hd:=WT hd;split at h
 ·rename_i cap sz n row;obtain⟨h1,h2,_⟩:=h;have e1:=Nat.eq_of_beq_eq_true h1;subst e1;refine⟨jY n row,fun K hK=>hK.2.2.2,?_⟩;cases hr with|d hr=>
  cases hr with
  |sl a c val hcap hle ha hlt hbk hlen hcell hrel=>
   obtain⟨ab,ao,asp⟩:=a;simp only at ha;subst ha;refine run_convert_bytes_arg w src e hs he ab ao n c _ (by simp) (fun i hi=> ?_) dst hd;have hrw:=X3 (h2 i hi);have hv:val i 0= .int .u8 (byteOf (row i)):=by
    have:=hrel i hi 0 (by omega);rw[hrw] at this;simp only[List.getD_cons_zero] at this;generalize val i 0=u at this
    cases this;rfl
   have:=hcell i hi 0 (by omega);rw[hv,Nat.mul_one,Nat.add_zero] at this;rw[this];simp[List.getD_eq_getElem?_getD,hi]
  |zero p c hcap hp=>exact wL w src dst e hs he hd p c row
 ·rename_i b sz lo n;split at h
  ·rename_i sz' n' row hbk;obtain⟨h1,h2,h3,_⟩:=h;simp only[Bool.and_eq_true] at h1;have e1:=Nat.eq_of_beq_eq_true h1.1;have e2:=Nat.eq_of_beq_eq_true h1.2;subst e1 e2;refine⟨jY n fun i=>row (lo+i),fun K hK=> ?_,?_⟩
   ·have:=hK.2;simp only[hbk] at this;exact this.2.2.2
   obtain⟨o,ho,hB⟩:=hS.blk b _ hbk;cases hr with
   | @ms _ _ _ _ cb c e' m hj hsh hn hm=>
    rw[hj] at ho;cases ho
    obtain⟨C,e'',⟨f,hC,hf'⟩,hCs,Gn⟩:=hB;have hf:=Or.imp_left And.left hf';refine run_convert_bytes_arg w src e hs he cb (lo*1) n c _ (by simp) (fun i hi=> ?_) dst hd;have hrw:=X3 (h3 i hi);have hv:C.getD ((lo+i)*1+0) Go.undef= .int .u8 (byteOf (row (lo+i))):=by
     have:=(Gn (lo+i) (by omega)).2 0 (by omega);rw[hrw] at this;simp only[List.getD_cons_zero] at this;generalize C.getD ((lo+i)*1+0) Go.undef=u at this
     cases this;rfl
    rw[cell_of hC];simp only[Nat.mul_one,Nat.add_zero] at hv⊢;have hlt:lo+i<C.size:=by omega
    rw[Array.getElem?_eq_getElem hlt];rw[Array.getD_eq_getD_getElem?,Array.getElem?_eq_getElem hlt] at hv;simp only[Option.getD_some] at hv;rw[hv];simp[List.getD_eq_getElem?_getD,hi]
   |ms0 p hj=>exact wL w src dst e hs he hd p 0 _
   |sN p e' m hj hsh hlo hm=>exact wL w src dst e hs he hd p 0 _
  ·exact h.elim
 ·exact h.elim
theorem toStrA_eq{P:Program}{σ:List aC}{src dst:TypeId}{x:AV}{K:AV->Prop}(h:yR P src dst σ x K): ∃b,K (.d (.v (.string b)))/\yR P src dst σ x fun r=>r= .d (.v (.string b)):=by
 unfold yR at h;obtain⟨hT,h⟩:=h;split at h
 ·exact⟨_,h.2.2,hT,h.1,h.2.1,rfl⟩
 ·split at h
  ·rename_i hbk;refine⟨_,h.2.2.2,hT,?_⟩;simp only[hbk];exact⟨h.1,h.2.1,h.2.2.1,trivial⟩
  ·exact h.elim
 ·exact h.elim
theorem aS.ext1{w w':World}{j:Js}{σ:List aC}(h:aS w j σ)(hsz:w'.heap.size=w.heap.size+1)(hold: ∀b,b<w.heap.size->w'.heap[b]? =w.heap[b]?)(hos:w'.os=w.os)(htp:w'.tape=w.tape)(hout:w'.output=w.output)(x:aC)
  (hx:RB w' (j++[some w.heap.size]) x (some w.heap.size)):
  aS w' (j++[some w.heap.size]) (σ++[x])/\Ev j w (j++[some w.heap.size]) w':=by
 have he:Ev j w (j++[some w.heap.size]) w':=by
  refine⟨by omega,fun b hb _=>hold b hb,fun b hb hm=> ?_,fun b hb=>by simp[World.shape?,hold b hb],fun a ha=>by simp[World.frozen?,hold _ ha],hos,htp,hout,fun b r hr=>⟨r,by rw[hold b (Array.getElem?_eq_some_iff.1 hr).1];exact hr⟩⟩;simp at hm;rcases hm with hm|hm
  ·exact hm
  ·omega
 refine⟨⟨by simp[h.len],fun b cb hb=> ?_,fun b b' cb hb hb'=> ?_,fun b y hy=> ?_⟩,he⟩
 ·rw[List.getElem?_append] at hb;split at hb
  ·have:=h.lt b cb hb;omega
  ·rw[List.getElem?_singleton] at hb;split at hb<;>simp at hb;omega
 ·have key: ∀q:Nat,(j++[some w.heap.size])[q]? =some (some cb)->(j[q]? =some (some cb)/\cb<w.heap.size)\/(q=j.length/\cb=w.heap.size):=by
   intro q hq;rw[List.getElem?_append] at hq;split at hq
   ·exact .inl ⟨hq,h.lt q cb hq⟩
   ·rw[List.getElem?_singleton] at hq;split at hq<;>simp at hq;exact .inr ⟨by omega,hq.symm⟩
  rcases key b hb with h1|h1<;>rcases key b' hb' with h2|h2
  ·exact h.inj b b' cb h1.1 h2.1
  ·omega
  ·omega
  ·omega
 ·rw[List.getElem?_append] at hy;split at hy
  ·obtain⟨o,ho,hB⟩:=h.blk b y hy;have hbl:b<j.length:=by rw[h.len];assumption
   refine⟨o,by rw[List.getElem?_append_left hbl];exact ho,hB.mono he h.lt (bZ _ _) fun cb hcb=> ?_⟩;subst hcb;exact hold cb (h.lt b cb ho)
  ·rw[List.getElem?_singleton] at hy;split at hy<;>simp at hy;subst hy;refine⟨some w.heap.size,?_,hx⟩;rw[List.getElem?_append_right (by rw[h.len];omega),List.getElem?_singleton,if_pos (by rw[h.len];omega)]
theorem WB{P:Program}{w:World}{j:Js}{σ:List aC}(hS:aS w j σ){src dst e:TypeId}(hs:yF P src=true)(hd:lT P dst=some e)(b:ByteArray):
  ∃v w',(convert src dst (.string b)).run P w= .ok v w'/\aS w' (j++[some w.heap.size]) (σ++[.arr 1 b.size (strRow b)])/\R w' (j++[some w.heap.size]) (.ms σ.length 1 0 b.size) v/\Ev j w (j++[some w.heap.size]) w':=by
 obtain⟨hd1,hd2⟩:=JZ hd;have hcs:(Lib.bytesCells w e b).size=grownCap w b.size 0 e:=by
  have:=grownCap_ge w b.size 0 e;simp[Lib.bytesCells];have e1:b.data.size=b.size:=rfl;omega
 have hnew:=Lib.bytesWorld_at_new w e b;have hge:=grownCap_ge w b.size 0 e;obtain⟨g1,g2⟩:=hS.ext1 (w':=Lib.bytesWorld w e b) (Lib.bytesWorld_size w e b) (fun q hq=>Lib.bytesWorld_at_old w e b q hq) rfl rfl rfl (.arr 1 b.size (strRow b)) (by
  refine⟨Lib.bytesCells w e b,e,⟨_,hnew,.inl ⟨Nat.le_refl _,rfl⟩⟩,by omega,fun i hi=>⟨rfl,fun k hk=> ?_⟩⟩;obtain rfl:k=0:=by omega
  have hc:=Lib.bytesWorld_cell w e b i hi;rw[cell_of hnew] at hc;have hlt:i<(Lib.bytesCells w e b).size:=by omega
  have hv:(Lib.bytesCells w e b).getD (i*1+0) Go.undef= .int .u8 ((b[i]?).getD 0).toNat:=by
   simp only[Nat.mul_one,Nat.add_zero,Array.getD_eq_getD_getElem?];rw[hc];simp only[Option.getD_some];have e2:b.data.toList.getD i 0=(b[i]?).getD 0:=by
    have h1:i<b.data.size:=hi;rw[getElem?_pos b i hi];rw[List.getD_eq_getElem?_getD,Array.getElem?_toList,Array.getElem?_eq_getElem h1];rfl
   rw[e2]
  rw[hv];exact .v _)
 refine⟨_,_,Lib.run_convert_string_bytes w src dst e b (WT hs) hd1 hd2,g1,?_,g2⟩;have hms:R (Lib.bytesWorld w e b) (j++[some w.heap.size]) (.ms σ.length 1 0 b.size) (.slice (some ⟨w.heap.size,0*1,none⟩) b.size (grownCap w b.size 0 e)):=by
  refine .ms _ e (grownCap w b.size 0 e) ?_ ?_ hge (by omega)
  ·rw[List.getElem?_append_right (by rw[hS.len];omega)];simp[hS.len]
  ·rw[mO hnew,hcs]
 exact hms
def arA(P:Program)(t:TypeId):Option (Nat×Nat):=
 match P.underlying t with
 |some (.array n e)=>match P.info? e with
  |some i=>some (n,i.size)
  |none=>none
 |_=>none
def BZ(P:Program)(g:Bool)(t:TypeId)(x:AV)(i:Int)(K:AV->Prop):Prop:=
 match arA P t with
 |some (n,m)=>(g=true->0<=i/\i<n)/\(match x with
  | .ptr b off=>K (.ptr b (off+i.toNat*m))
  | .pe b sz r k=>K (.pe b sz r (k+i.toNat*m))
  | .el cs=>K (.el (cs.drop (i.toNat*m)))
  |_=>False)
 |none=>False
theorem OX{P:Program}{g:Bool}{t:TypeId}{a:AV}{k:IntKind}{i:Int}{K:AV->Prop}(h:BZ P g t a i K){s:St}{x y:Operand}(hx:Arg g s x a)(hy:Arg g s y (.d (.v (.int k i)))):
  ∃av,K av/\Bz P g s (.indexAddr t x y) av:=by
 unfold BZ at h;split at h
 ·rename_i n m hA;obtain⟨hs,h⟩:=h;have hA': ∃e inf,P.underlying t=some (.array n e)/\P.info? e=some inf/\inf.size=m:=by
   unfold arA at hA;split at hA
   ·rename_i n' e hu;split at hA
    ·rename_i inf hi;simp only[Option.some.injEq,Prod.mk.injEq] at hA;obtain⟨rfl,rfl⟩:=hA;exact⟨e,inf,hu,hi,rfl⟩
    ·simp at hA
   ·simp at hA
  obtain⟨e,inf,hu,hi,hm⟩:=hA';have base: ∀{av:AV},(∀j w u,R w j a u->∃ad,u= .pointer (some ad)/\R w j av (.pointer (some (ad.add (i.toNat*m)))))->Bz P g s (.indexAddr t x y) av:=by
   intro av hh hg j0 j a w op ho hrel;obtain⟨h0,h1⟩:=hs hg;have h2:=kD (hy hg j0 j a w hrel);obtain⟨ad,h3,h4⟩:=hh j w _ (hx hg j0 j a w hrel);refine⟨_,?_,h4⟩;simp only[execOp,ho,h2,h3];exact gW (by simp[Instr.indexAt,asIntOf,underlying,hu,Instr.sureAddr,h0,h1,Go.sizeOf,typeInfo,hi,hm])
  split at h
  ·refine⟨_,h,base fun j w u hr=> ?_⟩;cases hr with
   |ptr hb=>exact⟨_,rfl,by rw[dX _ rfl];exact .ptr hb⟩
  ·refine⟨_,h,base fun j w u hr=> ?_⟩;cases hr with
   |pe hb=>exact⟨_,rfl,by rw[dX _ rfl];simp only[Nat.add_assoc];exact .pe hb⟩
  ·rename_i cs;refine⟨_,h,base fun j w u hr=> ?_⟩;cases hr with
   |el ad val ha hlt hb hcell hrel=>
    refine⟨_,rfl,?_⟩;rw[dX _ ha];generalize i.toNat*m=o
    refine .el _ (fun k=>val (o+k)) rfl hlt hb (fun k hk=> ?_) (fun k hk=> ?_)
    ·simp only[List.length_drop] at hk;have:=hcell (o+k) (by omega);rw[←Nat.add_assoc] at this;exact this
    ·simp only[List.length_drop] at hk;have:=hrel (o+k) (by omega);have e1:(cs.drop o).getD k default=cs.getD (o+k) default:=by simp[List.getD_eq_getElem?_getD]
     rw[e1];exact this
  ·exact h.elim
 ·exact h.elim
def gu(P:Program)(t:TypeId):Bool:=match P.underlying t with|some (.array _ _)=>true|_=>false
def capA(P:Program)(t:TypeId)(x:AV)(K:AV->Prop):Prop:=
 match x with
 | .mc _ _ _ _ c=>Nat.beq (iD P t) 1=true/\K (.d (.v (.int .i64 c)))
 |_=>False
theorem cap_sound{P:Program}{g:Bool}{s:St}{t:TypeId}{x:Operand}{a:AV}{K:AV->Prop}(h:capA P t a K)(hx:Arg g s x a)(at_:Array TypeId)(hat:at_= #[t]): ∃av,K av/\Bz P g s (.call { callee:= .builtin .cap,args:= #[x],argTypes:=at_ }) av:=by
 subst hat;unfold capA at h;split at h
 ·obtain⟨ht,hK⟩:=h;obtain⟨e,hu⟩:=IL ht;refine⟨_,hK,fun hg j0 j a w o ho hrel=> ?_⟩;have h1:=hx hg j0 j a w hrel;generalize hv:a.eval x=u at h1
  cases h1 with|mc h1 q hq=>
  subst hq;refine⟨_,?_,.d (.v _)⟩;simp[execOp,ho,resolve,invoke,builtin,hv,Builtin.cap_,underlying,hu,goInt]
 ·exact h.elim
def pv(P:Program)(g:Bool)(s:St)(op:Op)(K:AV->Prop):Prop:=
 match op with
 | .move x=>arg g s x K
 | .assign x=>arg g s x K
 | .pick c x y=>arg g s c fun
  | .d (.v (.bool b))=>arg (g&&b) s x fun
   | .d (.v (.bool p))=>arg (g&& !b) s y fun
    | .d (.v (.bool q))=>K (.d (.v (.bool (cond b p q))))
    |_=>False
   |_=>False
  |_=>False
 | .binOp op t x y _=>arg g s x fun a=>arg g s y fun b=>bin P g op t a b K
 | .unOp op _ x=>arg g s x fun a=>un op a K
 | .extract x i=>arg g s x fun
  | .eX vs=>(match vs[i]? with
   |some a=>K a
   |none=>False)
  |_=>False
 | .fieldAddr t x f=>match aG P t f with
  |some o=>arg g s x fun a=>xF o a K
  |none=>False
 | .field t x f=>match LG P t f with
  |some (off,agg,m)=>arg g s x fun
   | .agg cs=>(agg||Nat.beq m 1)=true/\Nat.ble (off+m) cs.length=true/\K (loaded agg ((cs.drop off).take m))
   |_=>False
  |none=>False
 | .indexAddr t x i=>arg g s x fun a=>arg g s i fun
  | .d (.v (.int _ n))=>if gu P t then BZ P g t a n K else xA P g t a n K
  |_=>False
 | .index t x i=>arg g s x fun
  | .d (.v (.string b))=>yF P t=true/\arg g s i fun
   | .d (.v (.int _ n))=>(g=true->0<=n/\n<b.size)/\K (.d (.v (.int .u8 ((b[n.toNat]?).getD 0).toNat)))
   |_=>False
  | .agg cs=>(match arV P t with
   |some (q,agg,m)=>(agg||Nat.beq m 1)=true/\q*m<=cs.length/\arg g s i fun
    | .d (.v (.int _ n))=>(g=true->0<=n/\n<q)/\K (loaded agg ((cs.drop (n.toNat*m)).take m))
    |_=>False
   |none=>False)
  |_=>False
 | .load t x=>arg g s x fun a=>loadA P g t s.σ a K
 | .slice t x lo hi mx=>arg g s x fun a=>MP P g t s a lo hi mx K
 | .build t ps=>uy g s ps.toList fun parts=>VP P t parts K
 | .makeFunc fn f c=>args g s f.toList fun fs=>args g s c.toList fun cs=>K (.clo fn fs cs)
 | .convert src dst x=>arg g s x fun
  | .d (.v (.int k n))=>yJ P src=some k/\(match yJ P dst with
   |some k'=>K (.d (.v (.int k' (k'.wrap n))))
   |none=>False)
  | .d (.v (.string b))=>(yF P dst&&yF P src)=true/\K (.d (.v (.string b)))
  |a=>yR P src dst s.σ a K
 | .nilCheck x=>arg g s x fun a=>DJ a=true/\K a
 | .lookup t x k ok=>arg g s x fun m=>arg g s k fun k=>LC P t s.σ m k ok K
 | .entry x=>arg g s x fun a=>Vk s.σ a K
 | .call c=>match c.callee,c.args.toList,c.argTypes.toList with
  | .builtin .len,[x],[t]=>arg g s x fun a=>lenA P t a K
  | .builtin .cap,[x],[t]=>arg g s x fun a=>capA P t a K
  | .builtin .min,[x,y],_=>arg g s x fun a=>arg g s y fun b=>lu false a b K
  | .builtin .max,[x,y],_=>arg g s x fun a=>arg g s y fun b=>lu true a b K
  | .builtin .min,[x,y,z],_=>arg g s x fun a=>arg g s y fun b=>arg g s z fun c=>lu false a b fun d=>lu false d c K
  | .builtin .max,[x,y,z],_=>arg g s x fun a=>arg g s y fun b=>arg g s z fun c=>lu true a b fun d=>lu true d c K
  |_,_,_=>False
 |_=>False
theorem NT{P:Program}{g:Bool}{s:St}{op:Op}{K:AV->Prop}(h:pv P g s op K): ∃av,K av/\Bz P g s op av:=by
 unfold pv at h;split at h
 ·obtain⟨av,h1,h2⟩:=aB h;exact⟨av,h1,aas h2⟩
 ·obtain⟨av,h1,h2⟩:=aB h;exact⟨av,h1,V6 h2⟩
 ·obtain⟨av,h,h2⟩:=aB h;split at h
  ·obtain⟨av,h,h3⟩:=aB h;split at h
   ·obtain⟨av,h,h4⟩:=aB h;split at h
    ·exact⟨_,h,aan h2 h3 h4⟩
    ·exact h.elim
   ·exact h.elim
  ·exact h.elim
 ·obtain⟨av,h,h2⟩:=aB h;obtain⟨P5,h,h3⟩:=aB h;exact bin_sound h h2 h3
 ·obtain⟨av,h,h2⟩:=aB h;exact un_sound h h2
 ·obtain⟨av,h,h2⟩:=aB h;split at h
  ·split at h
   ·exact⟨_,h,QT h2 (by assumption)⟩
   ·exact h.elim
  ·exact h.elim
 ·split at h
  ·obtain⟨av,h,h2⟩:=aB h;exact KU (by assumption) h h2
  ·exact h.elim
 ·split at h
  ·rename_i off agg m hf;obtain⟨av,h,h2⟩:=aB h;split at h
   ·obtain⟨g1,g2,g3⟩:=h;refine⟨_,g3,Yq hf (fun ha=> ?_) (by simpa using g2) h2⟩;subst ha;exact Nat.eq_of_beq_eq_true (by simpa using g1)
   ·exact h.elim
  ·exact h.elim
 ·obtain⟨av,h,h2⟩:=aB h;obtain⟨P5,h,h3⟩:=aB h;split at h
  ·split at h
   ·exact OX h h2 h3
   ·exact KO h h2 h3
  ·exact h.elim
 ·obtain⟨av,h,h2⟩:=aB h;split at h
  ·obtain⟨ht,h⟩:=h;obtain⟨P5,h,h3⟩:=aB h;split at h
   ·exact⟨_,h.2,index_str ht h.1 h2 h3⟩
   ·exact h.elim
  ·split at h
   ·rename_i ht;obtain⟨hm,hl,h⟩:=h;obtain⟨P5,h,h3⟩:=aB h;split at h
    ·exact⟨_,h.2,index_arr ht hm hl h.1 h2 h3⟩
    ·exact h.elim
   ·exact h.elim
  ·exact h.elim
 ·obtain⟨av,h,h2⟩:=aB h;exact aav h h2
 ·obtain⟨av,h,h2⟩:=aB h;exact W9 h h2
 ·exact Y8 h
 ·obtain⟨fs,h,h2,h3⟩:=ku h;obtain⟨cs,h,h4,h5⟩:=ku h;exact⟨_,h,OB ⟨h2,h3⟩ ⟨h4,h5⟩⟩
 ·obtain⟨av,h,h2⟩:=aB h;split at h
  ·obtain⟨hs,h⟩:=h;split at h
   ·exact⟨_,h,YU (by assumption) hs h2⟩
   ·exact h.elim
  ·obtain⟨hs,h⟩:=h;simp only[Bool.and_eq_true] at hs;exact⟨_,h,YT hs.1 hs.2 h2⟩
  ·obtain⟨b,hK,hb⟩:=toStrA_eq h;refine⟨_,hK,fun hg j0 j a w o ho hrel=> ?_⟩;obtain⟨b',h3,h4⟩:=WA (P:=P) hrel.cZ hb (h2 hg j0 j a w hrel);have h5:=h3 _ hb;simp only[AV.d.injEq,D.v.injEq,Value.string.injEq] at h5;subst h5;exact⟨_,by simp only[execOp,ho];exact gW h4,.d (.v _)⟩
 ·obtain⟨av,h,h2⟩:=aB h;exact⟨_,h.2,Ol h2 h.1⟩
 ·obtain⟨av,h,h2⟩:=aB h;obtain⟨P5,h,h3⟩:=aB h;exact UR h h2 h3
 ·obtain⟨av,h,h2⟩:=aB h;exact YJ h h2
 ·rename_i c;have hc:c= { callee:=c.callee,args:=c.args.toList.toArray,argTypes:=c.argTypes.toList.toArray } :=by cases c;simp
  split at h
  ·rename_i e1 e2 e3;obtain⟨av,h,h2⟩:=aB h;rw[hc,e1,e2,e3];exact len_sound h h2 _ rfl
  ·rename_i e1 e2 e3;obtain⟨av,h,h2⟩:=aB h;rw[hc,e1,e2,e3];exact cap_sound h h2 _ rfl
  ·rename_i e1 e2;obtain⟨av,h,h2⟩:=aB h;obtain⟨P5,h,h3⟩:=aB h;rw[hc,e1,e2];exact FY (mx:=false) h h2 h3 _
  ·rename_i e1 e2;obtain⟨av,h,h2⟩:=aB h;obtain⟨P5,h,h3⟩:=aB h;rw[hc,e1,e2];exact FY (mx:=true) h h2 h3 _
  ·rename_i e1 e2;obtain⟨av,h,h2⟩:=aB h;obtain⟨P5,h,h3⟩:=aB h;obtain⟨av'',h,h4⟩:=aB h;rw[hc,e1,e2];exact DK (mx:=false) h h2 h3 h4 _
  ·rename_i e1 e2;obtain⟨av,h,h2⟩:=aB h;obtain⟨P5,h,h3⟩:=aB h;obtain⟨av'',h,h4⟩:=aB h;rw[hc,e1,e2];exact DK (mx:=true) h h2 h3 h4 _
  ·exact h.elim
 ·exact h.elim
theorem NU{P:Program}{g:Bool}{s:St}{op:Op}{K:AV->Prop}(h:pv P g s op K): ∀c,op≠.defer c:=by
 intro c hc;subst hc;exact h
end Go.aU
