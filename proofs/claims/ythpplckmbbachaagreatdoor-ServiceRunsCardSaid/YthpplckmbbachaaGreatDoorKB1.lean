/- Lemmas, no conditions. -/
import Derived.WalkKit
import Derived.Orders
import Derived.TacticsIn
import Derived.OrdersIn
import Derived.RangeFuncRecord
import Derived.Maps.RangeRun
import Derived.MapKept
set_option linter.unusedVariables false
set_option linter.unusedSimpArgs false
namespace Go
theorem aa{p:Prop}(e:p:=by omega):p:=e
theorem au{p:Prop}(e:p:=by simp[go_sem]):p:=e
theorem bj{p:Prop}(e:p:=by simp[go_sem];exact⟨rfl,rfl,rfl⟩):p:=e
theorem ai{p:Prop}(e:p:=by grind):p:=e
theorem bf{p:Prop}(e:p:=by simp[go_sem,fD]):p:=e
theorem aR{p:Prop}(e:p:=by simp[go_sem]<;>omega):p:=e
theorem aN{p:Prop}(e:p:=by simp[go_sem];rfl):p:=e
theorem aD{p:Prop}(e:p:=by kernel_rfl):p:=e
theorem an{p:Prop}(e:p:=by simp):p:=e
theorem l5{p:Prop}(e:p:=by simpa using d0):p:=e
theorem aH{p:Prop}(e:p:=by decide):p:=e
theorem eS{p:Prop}(e:p:=by simp[go_sem,hwf.tY,hwf.aat];rfl):p:=e
theorem eE{p:Prop}(e:p:=by simp[go_sem,bQ];rfl):p:=e
theorem jd{p:Prop}(e:p:=by rw[hK] at hn;simp[cx] at hn;omega):p:=e
theorem ku{p:Prop}(e:p:=by simpa using d1):p:=e
theorem aP{p:Prop}(e:p:=by simp_all):p:=e
theorem iv{p:Prop}(e:p:=by(simp[go_sem]<;>omega)):p:=e
theorem AF{p:Prop}(e:p:=by first|omega|(dsimp only;omega)):p:=e
theorem fN{p:Prop}(e:p:=by grind [AV.avoids]):p:=e
theorem fh{p:Prop}(e:p:=by decide+kernel):p:=e
theorem mr{p:Prop}(e:p:=by simp[go_sem,hs]<;>omega):p:=e
theorem o9{p:Prop}(e:p:=by simpa using d2):p:=e
theorem abJ{p:Prop}(e:p:=by have h:=nA (IP (σ++[.arr 3 u.nw (fun i=>ke.enc (u.gw i)),.var (bm (u.cells (.ms σ.length 3 0 u.nw)) c m rg e),.var [.ptr (σ.length+1) 0]]) [] [] (u.gk i) r e.Day);simpa[go_sem] using h):p:=e
theorem o8{p:Prop}(e:p:=by simpa using d3):p:=e
theorem eQ{p:Prop}(e:p:=by simp[ho]):p:=e
theorem Dn{p:Prop}(e:p:=by rw[←ha _ (by simpa[AV.under] using hu)];exact h):p:=e
theorem abI{p:Prop}(e:p:=by first|assumption|exact ay (by assumption)|omega|simp_all):p:=e
theorem AE{p:Prop}(e:p:=by rintro r σ1 X ⟨rfl,h2⟩;exact⟨by simp,h2⟩):p:=e
theorem Dm{p:Prop}(e:p:=by dsimp only;omega):p:=e
theorem Dl{p:Prop}(e:p:=by rintro r σ' X ⟨rfl,rfl,rfl⟩;simp[go_sem]):p:=e
theorem Rg{p:Prop}(e:p:=by simpa[AV.under] using hu):p:=e
theorem v7{p:Prop}(e:p:=by simp[go_sem];exact⟨rfl,rfl⟩):p:=e
theorem ahq{p:Prop}(e:p:=by rw[hid];exact fun h=>h hk4):p:=e
theorem Rf{p:Prop}(e:p:=by intro q hq;rw[hB2];exact OI (enc:=Ground.enc) rfl (by omega)):p:=e
theorem AD{p:Prop}(e:p:=by simp[go_sem];first|rfl|skip):p:=e
theorem vZ{p:Prop}(e:p:=by simp[go_sem] at h⊢;exact h):p:=e
theorem Hg{p:Prop}(e:p:=by simp[go_sem,hwf.one];first|rfl|skip):p:=e
theorem abH{p:Prop}(e:p:=by rcases Nat.lt_or_eq_of_le (Nat.le_of_lt_succ hq) with h|h;exact hx q h;rw[h];omega):p:=e
theorem rJ{p:Prop}(e:p:=by simp[Builtin.lenOf]):p:=e
theorem Re{p:Prop}(e:p:=by intro q hq;unfold cJ;by_cases h:q=i<;>simp[h,ek.enc]):p:=e
theorem Rc{p:Prop}(e:p:=by simp[go_sem];first|exact⟨rfl,rfl,rfl,rfl,rfl⟩|rfl):p:=e
theorem vY{p:Prop}(e:p:=by simp[ho,Op.operands]):p:=e
theorem abG{p:Prop}(e:p:=by exact fun k hk=>fH (enc:=Ground.enc) (x:=HB (ids q) (kH (g (ee n g (ids q)).toNat) made y)) rfl hk):p:=e
theorem Hf{p:Prop}(e:p:=by simp[go_sem,hs]):p:=e
theorem abF{p:Prop}(e:p:=by simp[go_sem,mY,my,aK,rowsOf];intro i hi;obtain rfl|rfl:i=0\/i=1:=(by omega);all_goals rfl):p:=e
theorem uo{p:Prop}(e:p:=by simpa using d4):p:=e
theorem abD{p:Prop}(e:p:=by rw[hx,if_neg (by simpa using d1)]):p:=e
theorem Dk{p:Prop}(e:p:=by simp[go_sem,gather]):p:=e
theorem abC{p:Prop}(e:p:=by rintro⟨h1,h2⟩;obtain⟨k,h3,h4⟩:=dw.1 h2;exact absurd h4 (by rw[hy k (by omega) h1];simp)):p:=e
theorem AB{p:Prop}(e:p:=by have:=hu.bx i hi;omega):p:=e
theorem AA{p:Prop}(e:p:=by simp[go_sem]<;>rfl):p:=e
theorem rI{p:Prop}(e:p:=by simpa using hk):p:=e
theorem Ax{p:Prop}(e:p:=by have:=hp.np;omega):p:=e
theorem VZ{p:Prop}(e:p:=by simp[go_sem,wS i (by have:=hp.ns;omega),hA,he]<;>omega):p:=e
theorem Dj{p:Prop}(e:p:=by simpa using d5):p:=e
theorem Q9{p:Prop}(e:p:=by intro q hq;unfold jD;rw[if_pos hq];rfl):p:=e
theorem o7{p:Prop}(e:p:=by grind [kg]):p:=e
theorem He{p:Prop}(e:p:=by simpa using h1):p:=e
theorem um{p:Prop}(e:p:=by rw[ho cb rfl,h1]):p:=e
theorem C9{p:Prop}(e:p:=by grind [Region.wanted]):p:=e
theorem Ai{p:Prop}(e:p:=by rw[h.len];omega):p:=e
theorem rH{p:Prop}(e:p:=by grind [Zp]):p:=e
theorem vX{p:Prop}(e:p:=by simpa using d6):p:=e
theorem ahp{p:Prop}(e:p:=by simp[d2]):p:=e
theorem K5{p:Prop}(e:p:=by assumption):p:=e
theorem uk{p:Prop}(e:p:=by simpa using hi):p:=e
theorem Hd{p:Prop}(e:p:=by simp[go_sem,KZ,hk]):p:=e
theorem Q8{p:Prop}(e:p:=by first|(simp[go_sem];rfl)|rfl):p:=e
theorem K4{p:Prop}(e:p:=by simp;omega):p:=e
theorem Hc{p:Prop}(e:p:=by simp[Op.operands]):p:=e
theorem abB{p:Prop}(e:p:=by have:=hp.ns;omega):p:=e
theorem Hb{p:Prop}(e:p:=by have:=hp.na;omega):p:=e
theorem abA{p:Prop}(e:p:=by simp[go_sem,hg]):p:=e
theorem Ha{p:Prop}(e:p:=by rw[hg] at hf;cases hf):p:=e
theorem VY{p:Prop}(e:p:=by simp[go_sem,fD]<;>omega):p:=e
theorem K3{p:Prop}(e:p:=by grind [World.shape?]):p:=e
theorem K2{p:Prop}(e:p:=by simpa using h2):p:=e
theorem aho{p:Prop}(e:p:=by rw[hz];decide):p:=e
theorem K1{p:Prop}(e:p:=by rw[hS.len];omega):p:=e
theorem zZ{p:Prop}(e:p:=by grind [kj]):p:=e
theorem Q7{p:Prop}(e:p:=by simp[go_sem,yb]):p:=e
theorem VX{p:Prop}(e:p:=by simp[h1]):p:=e
theorem ahn{p:Prop}(e:p:=by simp[hf]):p:=e
theorem C8{p:Prop}(e:p:=by simp[h.len]):p:=e
end Go
namespace Go.aI
inductive D where
 |v (x:Value)
 |sl (cap:Option Nat) (sz n:Nat) (row:Nat->List D)
instance:Inhabited D:=⟨.v undef⟩
inductive Key where
 |i (x:Int)
 |s (b:ByteArray)
 deriving DecidableEq
def Key.v:Key->Value
 | .i x=> .int .i64 x
 | .s b=> .string b
def Key.str:Key->Bool
 | .i _=>false
 | .s _=>true
inductive AV where
 |undef
 |iff (b:Bool) (x:AV)
 |d (x:D)
 |agg (cs:List AV)
 |cj (vs:List AV)
 |ptr (b off:Nat)
 |pe (b sz i k:Nat)
 |el (cs:List D)
 |op (b:Bool) (cs:List D)
 |ms (b sz lo n:Nat)
 |mc (b sz lo n c:Nat)
 |mp (b:Nat)
 |clo (fn:Fn) (first captured:List AV)
 |rl (b:Nat)
 |fm (d:Bool) (ks:List Key) (f:Key->D)
instance:Inhabited AV:=⟨.undef⟩
abbrev Js:=List (Option Nat)
def get:List (Nat×AV)->Nat->Option AV
 |[],_=>none
 |(k',v)::t,k=>if Nat.beq k' k then some v else get t k
inductive RD(w:World)(j:Js):D->Value->Prop
 |v (x:Value):RD w j (.v x) x
 |sl {cap:Option Nat} {sz n:Nat} {row:Nat->List D} (a:Addr) (c:Nat) (val:Nat->Nat->Value)
   (hcap:cap=none\/cap=some c) (hle:n<=c) (ha:a.spot=none) (hlt:a.block<w.heap.size) (hb:some a.block∉j)
   (hlen: ∀i,i<n->(row i).length=sz)
   (hcell: ∀i,i<n->∀k,k<sz->w.cell? ⟨a.block,a.off+i*sz+k,none⟩=some (val i k))
   (hrel: ∀i,i<n->∀k,k<sz->RD w j ((row i).getD k default) (val i k)):RD w j (.sl cap sz n row) (.slice (some a) n c)
 |zero {cap:Option Nat} {sz:Nat} {row:Nat->List D} (p:Option Addr) (c:Nat) (hcap:cap=none\/cap=some c) (hp:p=none->c=0):RD w j (.sl cap sz 0 row) (.slice p 0 c)
structure Q5(w:World)(j:Js)(es:Array MapEntry)(clock:Nat)(d:Bool)(ks:List Key)(f:Key->D):Prop where
 stamped:MapKept.Stamped es clock
 keys:(es.toList.map (·.key)).Perm (ks.map Key.v)
 kind: ∀k∈ks,k.str=d
 rel: ∀e∈es.toList,∀k,e.key=k.v->RD w j (f k) e.val
inductive R(w:World)(j:Js):AV->Value->Prop
 |undef (v:Value):R w j .undef v
 |iff {b:Bool} {x:AV} {v:Value} (h:b=true->R w j x v) (h0:b=false->v=Go.undef):R w j (.iff b x) v
 |d {x:D} {v:Value} (h:RD w j x v):R w j (.d x) v
 |agg {cs:List AV} (vs:Array Value) (hs:vs.size=cs.length) (h: ∀k,k<cs.length->R w j (cs.getD k .undef) (vs.getD k Go.undef)):R w j (.agg cs) (.agg vs)
 |cj {cs:List AV} (vs:Array Value) (hs:cs.length<=vs.size) (h: ∀k,k<cs.length->R w j (cs.getD k .undef) (vs.getD k Go.undef)):R w j (.cj cs) (.tuple vs)
 |ptr {b off cb:Nat} (h:j[b]? =some (some cb)):R w j (.ptr b off) (.pointer (some ⟨cb,off,none⟩))
 |pe {b sz i k cb:Nat} (h:j[b]? =some (some cb)):R w j (.pe b sz i k) (.pointer (some ⟨cb,i*sz+k,none⟩))
 |el {cs:List D} (a:Addr) (val:Nat->Value) (ha:a.spot=none) (hlt:a.block<w.heap.size) (hb:some a.block∉j)
   (hcell: ∀k,k<cs.length->w.cell? ⟨a.block,a.off+k,none⟩=some (val k))
   (hrel: ∀k,k<cs.length->RD w j (cs.getD k default) (val k)):R w j (.el cs) (.pointer (some a))
 |op {b:Bool} {cs:List D} {v:Value} (h:b=true->R w j (.el cs) v) (h0:b=false->v= .pointer none):R w j (.op b cs) v
 |ms {b sz lo n cb:Nat} (c e m:Nat) (h:j[b]? =some (some cb)) (hs:w.shape? cb=some (e,m)) (hn:n<=c) (hm:(lo+c)*sz=m):R w j (.ms b sz lo n) (.slice (some ⟨cb,lo*sz,none⟩) n c)
 |ms0 {b sz:Nat} (p:Option Addr) (h:j[b]? =some none):R w j (.ms b sz 0 0) (.slice p 0 0)
 |oY {b sz lo cb:Nat} (p:Option Addr) (e m:Nat) (h:j[b]? =some (some cb)) (hs:w.shape? cb=some (e,m)) (hlo:0<lo) (hm:lo*sz=m):R w j (.ms b sz lo 0) (.slice p 0 0)
 |mc {b sz lo n c:Nat} {v:Value} (h:R w j (.ms b sz lo n) v) (q:Option Addr) (hv:v= .slice q n c):R w j (.mc b sz lo n c) v
 |mp {b cb:Nat} (h:j[b]? =some (some cb)):R w j (.mp b) (.map (some cb))
 |clo {fn:Fn} {fs cs:List AV} (ff cc:Array Value) (h1:ff.size=fs.length) (h2:cc.size=cs.length)
   (h3: ∀k,k<fs.length->R w j (fs.getD k .undef) (ff.getD k Go.undef)) (h4: ∀k,k<cs.length->R w j (cs.getD k .undef) (cc.getD k Go.undef)):R w j (.clo fn fs cs) (.func fn ff cc)
 |rl {b cb:Nat} (h:j[b]? =some (some cb)):R w j (.rl b) (.func (.yield cb) #[] #[])
 |fm {d:Bool} {ks:List Key} {f:Key->D} (c cl:Nat) (es:Array MapEntry) (hlt:c<w.heap.size) (hb:some c∉j) (rv:w.heap[c]? =some (.map es cl)) (hm:Q5 w j es cl d ks f):R w j (.fm d ks f) (.map (some c))
def RT(w:World)(j:Js)(N:Nat)(t:List (Nat×AV))(tmps:Array Value):Prop:=
 tmps.size=N/\∀k av,(k,av)∈t->k<N/\R w j av (tmps.getD k Go.undef)
structure gH where
 N:Nat
 t:List (Nat×AV)
 ps:Array Tmp
 assign:Code
 body:Code
mutual
def AV.free:AV->Bool
 | .undef=>true
 | .iff b x=> !b||x.free
 | .d _=>true
 | .agg cs=>pF cs
 | .cj cs=>pF cs
 | .ptr _ _=>false
 | .pe _ _ _ _=>false
 | .el _=>true
 | .op _ _=>true
 | .ms _ _ _ _=>false
 | .mc _ _ _ _ _=>false
 | .mp _=>false
 | .clo _ fs cs=>pF fs&&pF cs
 | .rl _=>false
 | .fm _ _ _=>true
def pF:List AV->Bool
 |[]=>true
 |x::xs=>x.free&&pF xs
end
structure ft(w:World)(j:Js)(es:Array MapEntry)(clock:Nat)(d:Bool)(ks:List Key)(f:Key->AV):Prop where
 stamped:MapKept.Stamped es clock
 keys:(es.toList.map (·.key)).Perm (ks.map Key.v)
 kind: ∀k∈ks,k.str=d
 free: ∀k,(f k).free=true
 rel: ∀e∈es.toList,∀k,e.key=k.v->R w j (f k) e.val
structure oe(w:World)(j:Js)(mb:Nat)(es:Array MapEntry)(clock:Nat)(seen:Array Nat)(left:List Key)(cur:Option Key)(f:Key->AV):Prop where
 lt:mb<w.heap.size
 own:some mb∉j
 heap:w.heap[mb]? =some (.map es clock)
 stamped:MapKept.Stamped es clock
 keys:((leftOf es seen).toList.map (·.key)).Perm (left.map Key.v)
 cur: ∀k,cur=some k->∃e∈es.toList,e.key=k.v/\∃sn:Array Nat,seen=sn.push e.born
 free: ∀k,(f k).free=true
 rel: ∀e∈es.toList,∀k,e.key=k.v->R w j (f k) e.val
inductive aZ where
 |var (cs:List AV)
 |arr (sz n:Nat) (row:Nat->List D)
 |lp (L:gH) (st:LoopState) (pd:Option Code)
 |dead
 |loc (c:Nat)
 |tab (c:Nat) (vs:Array Value)
 |mp (d:Bool) (ks:List Key) (f:Key->AV)
 |GK (d:Bool) (ks:List Key) (f:Key->AV) (κ:Key) (q:Nat)
 |it (left:List Key) (cur:Option Key) (f:Key->AV)
def yI(es:Array MapEntry)(κ:Key)(q:Nat):Prop:= ∃i e,es.findIdx? (fun e=>(e.born:Int)==(q:Int))=some i/\es[i]? =some e/\e.key=κ.v
def CA(w:World)(cb:Nat)(C:Array Value)(e:TypeId)(sz:Nat):Prop:= ∃f:Nat×Nat,w.heap[cb]? =some (.cells C e f)/\(C.size<=f.1/\sz=1\/f=(0,0))
theorem CA.mk0{w cb C e sz}(h:w.heap[cb]? =some (.cells C e (0,0))):CA w cb C e sz:=⟨_,h,.inr rfl⟩
theorem CA.at{w w' cb C e sz}(h:CA w cb C e sz)(hw:w'.heap[cb]? =w.heap[cb]?):CA w' cb C e sz:=let⟨f,h1,h2⟩:=h;⟨f,hw.trans h1,h2⟩
def RB(w:World)(j:Js):aZ->Option Nat->Prop
 | .dead,_=>True
 | .loc c,o=>o=none/\c<w.heap.size/\some c∉j/\∃m,w.cell? ⟨c,0,none⟩=some (.int .i64 m)
 | .tab c vs,o=>o=none/\c<w.heap.size/\some c∉j/\∃e,w.shape? c=some (e,vs.size)/\∀i,w.cell? ⟨c,i,none⟩=vs[i]?
 | .var cs,some cb=> ∃C e,w.heap[cb]? =some (.cells C e (0,0))/\C.size=cs.length/\∀k,k<cs.length->R w j (cs.getD k .undef) (C.getD k Go.undef)
 | .arr sz n row,some cb=> ∃C e,CA w cb C e sz/\n*sz<=C.size/\∀i,i<n->(row i).length=sz/\∀k,k<sz->RD w j ((row i).getD k default) (C.getD (i*sz+k) Go.undef)
 | .arr _ n _,none=>n=0
 | .lp L st pd,some cb=> ∃r:Loop,w.heap[cb]? =some (.loop r)/\(r.state=st/\r.pending=pd/\r.params=L.ps/\r.assign=L.assign/\r.body=L.body)/\RT w j L.N L.t r.tmps
 | .lp _ _ _,none=>False
 | .mp d ks f,some cb=> ∃es clock,w.heap[cb]? =some (.map es clock)/\ft w j es clock d ks f
 | .mp _ _ _,none=>False
 | .GK d ks f κ q,some cb=> ∃es clock,w.heap[cb]? =some (.map es clock)/\ft w j es clock d ks f/\yI es κ q
 | .GK _ _ _ _ _,none=>False
 | .it left cur f,some cb=> ∃mb es clock seen,w.heap[cb]? =some (.mapIter (some mb) clock seen clock)/\oe w j mb es clock seen left cur f
 | .it _ _ _,none=>False
 | .var _,none=>False
structure aQ(w:World)(j:Js)(σ:List aZ):Prop where
 len:j.length=σ.length
 lt: ∀b cb:Nat,j[b]? =some (some cb)->cb<w.heap.size
 inj: ∀b b' cb:Nat,j[b]? =some (some cb)->j[b']? =some (some cb)->b=b'
 blk: ∀(b:Nat) x,σ[b]? =some x->∃o,j[b]? =some o/\RB w j x o
structure Ev(j:Js)(w:World)(j':Js)(w':World):Prop where
 size:w.heap.size<=w'.heap.size
 keep: ∀b,b<w.heap.size->some b∉j->w'.heap[b]? =w.heap[b]?
 sub: ∀b,b<w.heap.size->some b∈j'->some b∈j
 LH: ∀b,b<w.heap.size->w'.shape? b=w.shape? b
 tY: ∀a:Addr,a.block<w.heap.size->w'.frozen? a=w.frozen? a
 os:w'.os=w.os
 tape:w'.tape=w.tape
 output:w'.output=w.output
 lps: ∀(b:Nat) r,w.heap[b]? =some (.loop r)->∃r',w'.heap[b]? =some (.loop r')
theorem Ev.refl(j w):Ev j w j w:=⟨Nat.le_refl _,fun _ _ _=>rfl,fun _ _ h=>h,fun _ _=>rfl,fun _ _=>rfl,rfl,rfl,rfl,fun _ r h=>⟨r,h⟩⟩
theorem Ev.trans{j j1 j2 w w1 w2}(h:Ev j w j1 w1)(k:Ev j1 w1 j2 w2):Ev j w j2 w2 where
 size:=Nat.le_trans h.size k.size
 keep b hb hn:=by
  rw[k.keep b (Nat.lt_of_lt_of_le hb h.size) (fun hm=>hn (h.sub b hb hm)),h.keep b hb hn]
 sub b hb hm:=h.sub b hb (k.sub b (Nat.lt_of_lt_of_le hb h.size) hm)
 LH b hb:=by rw[k.LH b (Nat.lt_of_lt_of_le hb h.size),h.LH b hb]
 tY a ha:=by rw[k.tY a (Nat.lt_of_lt_of_le ha h.size),h.tY a ha]
 os:=by rw[k.os,h.os]
 tape:=by rw[k.tape,h.tape]
 output:=by rw[k.output,h.output]
 lps b r hb:=by
  obtain⟨r',h1⟩:=h.lps b r hb;exact k.lps b r' h1
def Ag(j j':Js)(X:List Nat):Prop:= ∀b:Nat,b<j.length->b∉X->j'[b]? =j[b]?
theorem Ag.refl(j X):Ag j j X:=fun _ _ _=>rfl
theorem qK{w w':World}{a}(h:w'.heap[a.block]? =w.heap[a.block]?):w'.cell? a=w.cell? a:=by
 grind [World.cell?]
theorem RD.mono{j j' w w'}(he:Ev j w j' w'){d v}(h:RD w j d v):RD w' j' d v:=by
 induction h with
 |v x=>exact .v x
 |sl a c val hcap hle ha hlt hb hlen hcell hrel ih=>
  refine .sl a c val hcap hle ha (Nat.lt_of_lt_of_le hlt he.size) (fun hm=>hb (he.sub _ hlt hm)) hlen (fun i hi k hk=> ?_) ih;exact(qK (a:=⟨a.block,_,none⟩) (he.keep a.block hlt hb)).trans (hcell i hi k hk)
 |zero p c hcap hp=>exact .zero p c hcap hp
mutual
def AV.avoids(X:List Nat):AV->Bool
 | .undef=>true
 | .iff b x=> !b||x.avoids X
 | .d _=>true
 | .agg cs=>cH X cs
 | .cj cs=>cH X cs
 | .ptr b _=> !X.contains b
 | .pe b _ _ _=> !X.contains b
 | .el _=>true
 | .op _ _=>true
 | .ms b _ _ _=> !X.contains b
 | .mc b _ _ _ _=> !X.contains b
 | .mp b=> !X.contains b
 | .clo _ fs cs=>cH X fs&&cH X cs
 | .rl b=> !X.contains b
 | .fm _ _ _=>true
def cH(X:List Nat):List AV->Bool
 |[]=>true
 |x::xs=>x.avoids X&&cH X xs
end
theorem dX{X} : ∀{cs k},cH X cs=true->k<cs.length->(cs.getD k .undef).avoids X=true
 |[],_,_,hk=>by grind
 |x::xs,0,h,_=>by grind [cH]
 |x::xs,k+1,h,hk=>by
  simp[cH] at h;have:=dX (k:=k) h.2 ai;grind
theorem Q5.mono{j j' w w'}(he:Ev j w j' w'){es cl d ks f}(h:Q5 w j es cl d ks f):Q5 w' j' es cl d ks f:=
 ⟨h.stamped,h.keys,h.kind,fun e hm k hk=>(h.rel e hm k hk).mono he⟩
theorem R.mono{j j' X w w'}(he:Ev j w j' w')(hl: ∀b cb:Nat,j[b]? =some (some cb)->cb<w.heap.size)(hag:Ag j j' X){av v}(h:R w j av v)(ha:av.avoids X=true):R w' j' av v:=by
 have key: ∀{b:Nat} {o},j[b]? =some o->X.contains b=false->j'[b]? =some o:=by
  intro b o h1 h2;rw[hag b (by
   grind) ai];exact h1
 induction h with
 |undef v=>exact .undef v
 |iff h h0 ih=>exact .iff (fun hb=>ih hb fN) h0
 |d h=>exact .d (h.mono he)
 |agg vs hs h ih=>exact .agg vs hs fun k hk=>ih k hk (dX fN hk)
 |cj vs hs h ih=>exact .cj vs hs fun k hk=>ih k hk (dX fN hk)
 |ptr h=>exact .ptr (key h fN)
 |pe h=>exact .pe (key h fN)
 |el a val hs hlt hb hcell hrel=>
  refine .el a val hs (Nat.lt_of_lt_of_le hlt he.size) (fun hm=>hb (he.sub _ hlt hm)) (fun k hk=> ?_) (fun k hk=>(hrel k hk).mono he);exact(qK (a:=⟨a.block,_,none⟩) (he.keep a.block hlt hb)).trans (hcell k hk)
 |op h h0 ih=>exact .op (fun hb=>ih hb rfl) h0
 |ms c e m h hs hn hm=>exact .ms c e m (key h fN) (by rw[he.LH _ (hl _ _ h)];exact hs) hn hm
 |ms0 p h=>exact .ms0 p (key h fN)
 |oY p e m h hs hlo hm=>exact .oY p e m (key h fN) (by rw[he.LH _ (hl _ _ h)];exact hs) hlo hm
 |mc h q hv ih=>exact .mc (ih fN) q hv
 |mp h=>exact .mp (key h fN)
 |rl h=>exact .rl (key h fN)
 |fm c cl es hlt hb rv hm=>exact .fm c cl es (Nat.lt_of_lt_of_le hlt he.size) (fun h=>hb (he.sub _ hlt h)) ((he.keep c hlt hb).trans rv) (hm.mono he)
 | @clo fn fs cs ff cc h1 h2 h3 h4 ih3 ih4=>
  have hb:cH X fs=true/\cH X cs=true:=fN;exact .clo ff cc h1 h2 (fun k hk=>ih3 k hk (dX hb.1 hk)) (fun k hk=>ih4 k hk (dX hb.2 hk))
def put:List (Nat×AV)->Nat->AV->List (Nat×AV)
 |[],k,v=>[(k,v)]
 |(k',v')::t,k,v=>if Nat.beq k' k then(k,v)::t else if Nat.blt k k' then(k,v)::(k',v')::t else(k',v')::put t k v
def del:List (Nat×AV)->Nat->List (Nat×AV)
 |[],_=>[]
 |(k',v')::t,k=>if Nat.beq k' k then del t k else(k',v')::del t k
theorem get_put(t k k' v):get (put t k v) k'=if k=k' then some v else get t k':=by
 induction t with
 |nil=>all_goals simp_all [put,get]
 |cons x t ih=>
  obtain⟨q,u⟩:=x;simp only[put];by_cases h1:q=k
  ·simp_all [get]
  ·rw[if_neg aP];split
   ·all_goals simp_all [get]
   ·by_cases h:k=k'
    all_goals simp_all [get]
theorem tC(t k k'):get (del t k) k'=if k=k' then none else get t k':=by
 induction t with
 |nil=>all_goals grind [del,get]
 |cons x t ih=>
  obtain⟨q,u⟩:=x;simp only[del];by_cases h1:q=k
  ·simp_all [get]
  ·rw[if_neg aP];by_cases h:k=k'
   all_goals simp_all [get]
structure St where
 N:Nat
 t:List (Nat×AV)
 σ:List aZ
 mv:List Nat
structure J0 where
 js:Js
 n0:Nat
 rd:Option Nat
def Marks(n0:Nat)(w:World)(j:Js)(ds:List Deferred):Prop:=
 (n0<=w.heap.size/\ds.Pairwise (fun d d'=>d.target≠d'.target))/\∀d∈ds,∃r,d= { target:= .collected r,args:= #[] }/\n0<=r/\some r∉j/\w.heap[r]? =some (.deferred (some []))
theorem Marks.mono{n0 w w' j j' ds}(h:Marks n0 w j ds)(he:Ev j w j' w'):Marks n0 w' j' ds:=
 ⟨⟨Nat.le_trans h.1.1 he.size,h.1.2⟩,fun d hd=>by
  obtain⟨r,h1,h2,h3,h4⟩:=h.2 d hd;have hlt:r<w.heap.size:=(Array.getElem?_eq_some_iff.1 h4).1;exact⟨r,h1,h2,fun hm=>h3 (he.sub r hlt hm),by rw[he.keep r hlt h3];exact h4⟩⟩
theorem Marks.nil{n0 w}(hn:n0<=w.heap.size)(j):Marks n0 w j []:=⟨⟨hn,.nil⟩,an⟩
structure Rel(j0:J0)(s:St)(j:Js)(a:Act)(w:World):Prop where
 defers:Marks j0.n0 w j a.defers
 fC: ∀l,j0.rd=some l->∃r,w.heap[l]? =some (.loop r)
 size:a.tmps.size=s.N
 tmp: ∀k av,get s.t k=some av->k<s.N/\R w j av (a.tmps.getD k Go.undef)
 cm:aQ w j s.σ
 len0:j0.js.length<=j.length
 ag:Ag j0.js j s.mv
theorem Rel.abT{j0 s j j' a w w'}(h:Rel j0 s j a w)(he:Ev j w j' w'): ∀l,j0.rd=some l->∃r,w'.heap[l]? =some (.loop r):=fun l hl=>by
 obtain⟨r,hr⟩:=h.fC l hl;exact he.lps l r hr
def u6(j0:J0)(j:Js)(w:World)(Q:Exit->St->Prop)(e:Exit)(a':Act)(w':World):Prop:=
 ∃s' j',Rel j0 s' j' a' w'/\Ev j w j' w'/\Q e s'
def FW(rd:Option Nat):Fence:= { fn:=fun _=>True,depth:=none,alive:=false,round:=rd }
theorem s9{rd n P f args w R}(h:Calls P f args w R):CallsIn (FW rd) n P f args w R:=callsIn_wide.2 h
def cV(P:Program)(c:Code)(Q:Exit->St->Prop)(s:St):Prop:=
 ∀(j0:J0) j a w,Rel j0 s j a w->c.wpIn (FW j0.rd) 0 P (u6 j0 j w Q) a w
def Rs(w:World)(j:Js)(args:List AV)(vs:Array Value):Prop:=
 vs.size=args.length/\∀k,k<args.length->R w j (args.getD k .undef) (vs.getD k Go.undef)
def cG(P:Program)(f:FuncId):Bool:=
 match P.funcs[f]? with
 | some fn => fn.body.isSome && !(fn.name == "runtime.NumGoroutine")
 |none=>false
def CS(P:Program)(f:FuncId)(args:List AV)(σ:List aZ)(Q:AV->List aZ->List Nat->Prop):Prop:=
 cG P f=true/\∀j w vs,aQ w j σ->Rs w j args vs->Calls P f vs w fun e w'=>
  ∃v r σ' j' X,e= .returned v/\aQ w' j' σ'/\R w' j' r v/\Ev j w j' w'/\j.length<=j'.length/\Ag j j' X/\Q r σ' X
def ak(P:Program)(f:FuncId)(args:List AV)(σ:List aZ)(r:AV):Prop:=
 CS P f args σ fun r' σ' X=>r'=r/\σ'=σ/\X=[]
theorem CS.mono{P f args σ Q Q'}(h:CS P f args σ Q)(hq: ∀r σ' X,Q r σ' X->Q' r σ' X):CS P f args σ Q':=
 ⟨h.1,fun j w vs h1 h2=>(h.2 j w vs h1 h2).mono fun _ _ ⟨v,r,σ',j',X,he,a,b,c,d,e,q⟩=>⟨v,r,σ',j',X,he,a,b,c,d,e,hq _ _ _ q⟩⟩
theorem ak.cs{P f args σ r Q}(h:ak P f args σ r)(hq:Q r σ []):CS P f args σ Q:=
 CS.mono h fun _ _ _ ⟨h1,h2,h3⟩=>by grind
end Go.aI
