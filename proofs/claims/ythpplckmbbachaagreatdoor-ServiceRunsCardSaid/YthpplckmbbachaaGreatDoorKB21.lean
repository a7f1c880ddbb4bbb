/- Lemmas, no conditions. -/
import Derived.Test.YthpplckmbbachaaGreatDoorKB16
set_option linter.unusedVariables false
set_option linter.unusedSimpArgs false
namespace Go.aI
def bh(k:IntKind)(n:Nat)(f:Nat->Int):List AV:=(List.range n).map fun i=> .d (.v (.int k (f i)))
def upd(f:Nat->Int)(i:Nat)(z:Int):Nat->Int:=fun q=>if q=i then z else f q
variable {k : IntKind} {n : Nat} {f : Nat -> Int}
theorem hG:(bh k n f).length=n:=by simp[bh]
theorem Y5{i}(h:i<n):(bh k n f)[i]? =some (.d (.v (.int k (f i)))):=by simp[bh,h]
theorem Y6{g}(h: ∀i,i<n->f i=g i):bh k n f=bh k n g:=by
 grind [bh,List.map_congr_left]
theorem S3{i}(h:i<n):List.take 1 (List.drop i (bh k n f))=[.d (.v (.int k (f i)))]:=by
 grind [bh,List.drop_eq_getElem_cons]
theorem O6{i z}(h:i<n):List.take i (bh k n f)++AV.d (.v (.int k z))::List.drop (i+1) (bh k n f)=bh k n (upd f i z):=by
 apply List.ext_getElem?;intro q;rw[List.getElem?_append];grind [hG,Y5,upd]
theorem Y7(h:0<n):List.take 1 (bh k n f)=[.d (.v (.int k (f 0)))]:=S3 (i:=0) h
theorem Vo{z}(h:0<n):AV.d (.v (.int k z))::(bh k n f).tail=bh k n (upd f 0 z):=by
 have:=O6 (k:=k) (f:=f) (z:=z) h;simp_all
theorem Vn:List.take n (bh k n f)=bh k n f:=List.take_of_length_le (by grind [hG])
theorem QS{l} :List.take n (bh k n f++l)=bh k n f:=by
 grind [hG]
theorem QR{l i}(h:n<=i):List.take i (bh k n f++l)=bh k n f++List.take (i-n) l:=by
 grind [List.take_append,hG,List.take_of_length_le]
theorem QU{l i}(h:n<=i):List.drop i (bh k n f++l)=List.drop (i-n) l:=by
 grind [List.drop_append,List.drop_eq_nil_of_le,hG]
theorem Vq{i}(h:n<=i):List.drop i (bh k n f)=[]:=List.drop_eq_nil_of_le (by grind [hG])
theorem O8:fJ (bh k n f)=true:=by
 unfold bh;have: ∀l:List Nat,fJ (l.map fun i=>AV.d (.v (.int k (f i))))=true:=by
  intro l;induction l<;>grind [fJ,AN,Value.oneCell']
 grind
theorem Br{m}{α:Type}(g:α->D): ∀l:List α,eo m (l.map fun i=>AV.d (g i))
 |[]=>trivial
 |x::l=>⟨trivial,Br g l⟩
theorem x9{X}{α:Type}(g:α->D): ∀l:List α,cH X (l.map fun i=>AV.d (g i))=true
 |[]=>rfl
 |x::l=>by simp only[List.map_cons,cH,AV.avoids,Bool.true_and];exact x9 g l
theorem F5{m} :eo m (bh k n f):=Br _ _
theorem O7{X} :cH X (bh k n f)=true:=x9 _ _
theorem QT{X} :(bh k n f).map (fun c=>if c.avoids X then c else .undef)=bh k n f:=by
 unfold bh;rw[List.map_map];exact List.map_congr_left fun i _=>rfl
theorem Vp{b sz n' row} :(bh k n f).map (lf b sz n' row)=bh k n f:=by
 unfold bh;rw[List.map_map];exact List.map_congr_left fun i _=>rfl
theorem iq:bw (bh k n f) (bh k n f):=by
 unfold bh;have: ∀l:List Nat,bw (l.map fun i=>AV.d (.v (.int k (f i)))) (l.map fun i=>AV.d (.v (.int k (f i)))):=by
  intro l;induction l with
  |nil=>trivial
  |cons x l ih=>exact⟨rfl,ih⟩
 grind
theorem Dq{m} : ∀{l l'},eo m l->eo m l'->eo m (l++l')
 |[],_,_,h=>h
 |x::l,l',h,h'=>⟨h.1,Dq h.2 h'⟩
theorem O5{m l} :eo m (bh k n f++l)=eo m l:=by
 apply propext;constructor
 ·intro h;have: ∀(l1 l2:List AV),eo m (l1++l2)->eo m l2:=by
   intro l1;induction l1 with
   |nil=>grind
   |cons x l1 ih=>exact fun l2 h=>ih l2 h.2
  grind
 ·exact Dq F5
theorem QH{P w j σ}(hS:aQ w j σ){t len parts}{vals:List (Nat×Value)}{K}(h:df P t len parts K)
  (h3:parts.length=vals.length) (h4: ∀k,k<parts.length->(parts.getD k (0,.undef)).1=(vals.getD k (0,Go.undef)).1/\R w j (parts.getD k (0,.undef)).2 (vals.getD k (0,Go.undef)).2):
  ∃v w' j' sz row,(Instr.buildSlice t len vals.toArray).run P w= .ok v w'/\aQ w' j' (σ++[.arr sz len row])/\R w' j' (.ms σ.length sz 0 len) v/\Ev j w j' w'/\j.length<=j'.length/\Ag j j' []/\K (.d (.sl (some len) sz len row)):=by
 unfold df at h;split at h
 ·rename_i e sz bytes z hsl;obtain⟨hu,i,zz,hi,hz,hsz,hby,hzz,hzs⟩:=lJ hsl;obtain⟨hle,h⟩:=h;split at h
  ·rename_i r hr;split at h
   ·rename_i ds hds;obtain⟨hdl0,hds⟩:=zW hds;subst hsz hby hzz;simp only[Nat.ble_eq] at hle;have hrl:(rep zz.cells.toList len).length=len*i.size:=by grind [ve]
    have ady: ∀k,k<((rep zz.cells.toList len).map fun v=>AV.d (.v v)).length->R w j (((rep zz.cells.toList len).map fun v=>AV.d (.v v)).getD k .undef) ((madeCells zz.cells (len*i.size)).getD k Go.undef):=by
     intro k hk;simp only[List.length_map,hrl] at hk;have hsz:0<i.size:=by
      grind
     have e1:((rep zz.cells.toList len).map fun v=>AV.d (.v v)).getD k .undef=AV.d (.v ((rep zz.cells.toList len).getD k Go.undef)):=by
      grind
     rw[e1,D2 _ _ _ ai,zA hk aa];have e2:zz.cells.toList.getD (k%zz.cells.toList.length) Go.undef=zz.cells.getD (k%zz.cells.size) Go.undef:=by
      simp_all
     rw[e2];exact .d (.v _)
    obtain⟨C',f1,f2,f3,f4⟩:=nM (w:=w) (j:=j) (pl:=fun q=>some (q*i.size,i.size)) (C:=madeCells zz.cells (len*i.size)) (fun q x hx=>by
      grind) (by grind [size_madeCells]) ady h3 h4 hr
    have hdl:ds.length=len*i.size:=by
     grind
    have hrun:(Instr.buildSlice t len vals.toArray).run P w= .ok (.slice (some ⟨w.heap.size,0,none⟩) len len) (w.alloc (.cells C' e)):=by
     have hgt: ¬(16777216<len*i.size):=aa;by_cases h0:len*i.size=0
     ·have hm:(Array.range 0).map (fun q=>(#[]:Array Value)[q%(#[]:Array Value).size]!)=madeCells zz.cells (len*i.size):=by grind [madeCells]
      simp only[Instr.buildSlice,Sem.run_bind,run_underlying hu,Result.andThen_ok,Go.sizeOf,typeInfo,run_program,hi,Sem.run_pure,h0,Sem.run_ite,if_true];simp_all [newRow]
     ·simp only[Instr.buildSlice,Sem.run_bind,run_underlying hu,Result.andThen_ok,Go.sizeOf,typeInfo,run_program,hi,Sem.run_pure,h0,Sem.run_ite,if_false];simp_all [madeCells,zeroValue,typeInfo,newRow]
    have he0:Ev j w (j++[some w.heap.size]) (w.alloc (.cells C' e)):=lS _ _ _ _ _ (fun b hb hm=>by
     grind)
    have he:Ev j w j (w.alloc (.cells C' e)):=lS _ _ _ _ _ (fun _ _ h=>h);have hC:C'.size=len*i.size:=ai;obtain⟨g1,g2⟩:=hS.alloc C' e (.arr i.size len (rowsOf i.size ds)) ⟨_,e,.mk0 (heap_alloc_new _ _),ai,fun q hq=>⟨by
      have:(q+1)*i.size<=len*i.size:=Nat.mul_le_mul_right _ hq;grind [rowsOf],fun k hk=>by
      have hle2:(q+1)*i.size<=len*i.size:=Nat.mul_le_mul_right _ hq;rw[Nat.succ_mul] at hle2;have hlt:q*i.size+k<r.length:=ai;have:=hds hlt (f4 _ hlt);have e2:(rowsOf i.size ds q).getD k default=ds.getD (q*i.size+k) default:=by
       grind [rowsOf]
      rw[e2];exact this.mono he0⟩⟩
    refine⟨_,_,_,_,_,hrun,g1,?_,g2,an,cg _ _,h⟩;have hms:R (w.alloc (.cells C' e)) (j++[some w.heap.size]) (.ms σ.length i.size 0 len) (.slice (some ⟨w.heap.size,0*i.size,none⟩) len len):=by
     refine .ms _ e (len*i.size) ?_ ?_ aa an
     ·rw[List.getElem?_append_right K1];simp[hS.len]
     grind [jE,heap_alloc_new]
    grind
   grind
  grind
 grind
def Xv(P:Program)(o:Oper)(s:St)(K:St->Prop):Prop:=
 match o.op,o.guard with
 | .buildSlice t len ps,none=>oW true s ps.toList fun parts=>df P t len parts fun av=>match av with
  | .d (.sl _ sz n row)=>K ((s.after (s.σ++[.arr sz n row]) []).put o.dst (.ms s.σ.length sz 0 n))
  |_=>False
 |_,_=>False
def Fl(P:Program)(all:List Oper):List Oper->Nat->St->(St->Prop)->Prop
 |[],_,s,K=>K s
 |o::os,0,s,K=>Xv P o s fun s'=>bz P false all os s' K
 |o::os,i+1,s,K=>fE all s o fun gd g=>JK P false gd g o s fun s'=>Fl P all os i s' K
def acG(P:Program)(all os:List Oper)(i:Nat)(K:St->Prop)(s:St):Prop:=Fl P all os i s K
theorem Qr(P all os o s K):Fl P all (o::os) 0 s K=Xv P o s (Rest P false all os K):=rfl
theorem Qs(P all os i o s K):Fl P all (o::os) (i+1) s K=fE all s o fun gd g=>JK P false gd g o s (acG P all os i K):=rfl
theorem Zg(P all os i K N t σ mv):acG P all os i K ⟨N,t,σ,mv⟩=Fl P all os i ⟨N,t,σ,mv⟩ K:=rfl
theorem P7{P o s K}(h:Xv P o s K):Runs P o s K:=by
 unfold Xv at h;split at h
 ·rename_i t len ps ho hg;obtain⟨parts,h,hl,hp⟩:=jO h;intro j0 j a w next Q hr hn
  obtain⟨v,w',j',sz,row,h1,h2,h3,h4,h5,h6,h7⟩:=QH (P:=P) (vals:=ps.toList.map fun p=>(p.1,a.eval p.2)) hr.cm h ai (fun k hk=>by
   have hk':k<ps.toList.length:=ai;have:=hp k hk';have e:(ps.toList.map fun p=>(p.1,a.eval p.2)).getD k (0,Go.undef)=((ps.toList.getD k (0,.const Go.undef)).1,a.eval (ps.toList.getD k (0,.const Go.undef)).2):=by
    grind
   rw[e];exact⟨this.1,this.2 rfl j0 j a w hr⟩)
  have e:(ps.toList.map fun p=>(p.1,a.eval p.2)).toArray=ps.map fun(i,x)=>(i,a.eval x):=by
   grind
  rw[e] at h1;have hrun:(execOp a.eval o).run P w= .ok (.value v) w':=by grind [execOp,er]
  refine oX ai hrun ?_;exact hn _ _ _ _ ((hr.after h4 h2 h5 h6).put o.dst h3) h4 h7
 ·exact h.elim
theorem sL{P Q all} : ∀{os i s K j0 j a w},Fl P all os i s K->(∀o,os[i]? =some o->o.guard=none)->Rel j0 s j a w->
  (∀s' j' a' w',Rel j0 s' j' a' w'->Ev j w j' w'->K s'->Q .normal a' w')->wpListIn (FW j0.rd) 0 P all.toArray Q os a w
 |[],i,s,K,j0,j,a,w,h,_,hr,hQ=>hQ s j a w hr (.refl _ _) h
 |o::os,0,s,K,j0,j,a,w,h,hgn,hr,hQ=>by
  have hw:Region.wanted o (yielded all.toArray a.tmps)=true:=C9;simp only[wpListIn,hw,if_true];exact(P7 h) j0 j a w _ _ hr fun s' j' a' w' hr' he hK=>iH hK hr' fun s'' Qd a'' w'' JY he' hK'=>hQ s'' Qd a'' w'' JY (he.trans he') hK'
 |o::os,i+1,s,K,j0,j,a,w,h,hgn,hr,hQ=>by
  obtain⟨gd,g,h,hgd,hw⟩:=lP h;obtain⟨h1,h2⟩:=tn h hgd;have hw:=hw hr;simp only[wpListIn,hw];cases g with
  |true=>
   simp only[if_true];exact(h1 rfl j0 j a w _ _ hr fun s' j' a' w' hr' he hK=>sL hK (fun o ho=>hgn o ho) hr' fun s'' Qd a'' w'' JY he' hK'=>hQ s'' Qd a'' w'' JY (he.trans he') hK')
  |false=>
   simp only[Bool.false_eq_true,if_false];obtain⟨s',hK,hs⟩:=h2 rfl;exact⟨fun _ _=>trivial,sL hK (fun o ho=>hgn o ho) (hs j0 j a w hr) hQ⟩
theorem O1{P Q s id ops y}(i)(hg: ∀o,ops[i]? =some o->o.guard=none)(h: ∀K:St->Prop,(∀s',cV P y Q s'->K s')->Fl P ops ops i s K):cV P (.seq (.region id ops.toArray false) y) Q s:=by
 refine aq ?_;intro j0 j a w hr;refine wpIn_region_lit (sL (h _ fun _ h=>h) hg hr fun s' j' a' w' hr' he hq=>⟨s',j',hr',he,hq⟩)
attribute [go_sem ↓] Qr Qs Zg Xv
theorem CS.tY{P f args args' σ σ' Q}(b){sz n row}(hb:σ[b]? =some (.arr sz n row))(ha:args.map (lf b sz n row)=args')(hσ:GS b sz n row σ=σ')
  (h:CS P f args' σ' Q):CS P f args σ fun r σ1 X=> ∃X0,X=b::X0/\Q r σ1 X0:=by
 subst ha hσ;refine⟨h.1,fun j w vs hS hr=> ?_⟩;have he:Ev j w (j.set b none) w:=⟨Nat.le_refl _,fun _ _ _=>rfl,fun c _ hm=>cA hm,fun _ _=>rfl,fun _ _=>rfl,rfl,rfl,rfl,fun _ r h=>⟨r,h⟩⟩;have hr':Rs w (j.set b none) (args.map (lf b sz n row)) vs:=by
  refine⟨by rw[List.length_map];exact hr.1,fun k hk=> ?_⟩;have hk':k<args.length:=ai;have h1:=(hr.2 k hk').lf hS hb;grind
 refine(h.2 (j.set b none) w vs (hS.tY hb) hr').mono ?_;rintro e w' ⟨v,r,σ1,j',X0,he1,h1,h2,h3,h4,h5,h6⟩;refine⟨v,r,σ1,j',b::X0,he1,h1,h2,he.trans h3,ai,fun c hc hn=> ?_,X0,rfl,h6⟩;have hcb:c≠b:=fun h=>hn (by simp[h]);have hcx:c∉X0:=fun h=>hn (by simp[h]);rw[h5 c ai hcx,List.getElem?_set,if_neg (fun h=>hcb h.symm)]
theorem CS.wide{P f args σ}{Q:AV->List aZ->Prop}(Y)(h:CS P f args σ fun r σ1 X=>(∀x∈X,x∈Y)/\Q r σ1):CS P f args σ fun r σ1 X=>X=Y/\Q r σ1:=by
 refine⟨h.1,fun j w vs hS hr=>(h.2 j w vs hS hr).mono ?_⟩;rintro e w' ⟨v,r,σ1,j',X,he1,h1,h2,h3,h4,h5,h6,h7⟩;exact⟨v,r,σ1,j',Y,he1,h1,h2,h3,h4,fun c hc hn=>h5 c hc (fun hm=>hn (h6 c hm)),rfl,h7⟩
theorem CS.narrow{P f args σ}{Q:AV->List aZ->Prop}(h:CS P f args σ fun r σ1 X=>(∀x∈X,σ.length<=x)/\Q r σ1):CS P f args σ fun r σ1 X=>X=[]/\Q r σ1:=by
 refine⟨h.1,fun j w vs hS hr=>(h.2 j w vs hS hr).mono ?_⟩;rintro e w' ⟨v,r,σ1,j',X,he1,h1,h2,h3,h4,h5,h6,h7⟩;exact⟨v,r,σ1,j',[],he1,h1,h2,h3,h4,fun c hc _=>h5 c hc (fun hm=>by have:=h6 c hm;rw[←hS.len] at this;omega),rfl,h7⟩
theorem Is{P c Q N t σ σ' mv}(b){sz n row}(row')(hb:σ[b]? =some (.arr sz n row))(hr: ∀i,i<n->(row' i).length=(row i).length/\∀k,k<sz->∀w j v,RD w j ((row i).getD k default) v->RD w j ((row' i).getD k default) v)(hσ:σ.set b (.arr sz n row')=σ')
  (h:cV P c Q ⟨N,t,σ',mv⟩):cV P c Q ⟨N,t,σ,mv⟩:=by
 refine fg (s':=⟨N,t,σ',mv⟩) ?_ h;intro j0 j a w g;subst hσ;refine⟨j,⟨g.defers,g.fC,g.size,g.tmp,⟨by simp[g.cm.len],g.cm.lt,g.cm.inj,fun c x hx=> ?_⟩,g.len0,g.ag⟩,.refl _ _⟩;simp only at hx;rw[List.getElem?_set] at hx;split at hx
 ·rename_i e;subst e;split at hx
  ·simp only[Option.some.injEq] at hx;subst hx;obtain⟨o,ho,hB⟩:=g.cm.blk b _ hb;refine⟨o,ho,?_⟩;cases o with
   |none=>exact hB
   |some cb=>
    obtain⟨C,e,g1,g2,g3⟩:=hB;exact⟨C,e,g1,g2,fun i hi=>⟨ai,fun k hk=>(hr i hi).2 k hk _ _ _ ((g3 i hi).2 k hk)⟩⟩
  grind
 ·exact g.cm.blk c x hx
theorem RD.nil{w j v sz row}(h:RD w j (.v (.slice none 0 0)) v):RD w j (.sl none sz 0 row) v:=by
 cases h;exact .zero none 0 (.inl rfl) (fun _=>rfl)
open Go
def JE:AV->Bool
 | .d _=>true
 | .agg cs=>cs.all fun c=>match c with
  | .d _=>true
  |_=>false
 |_=>false
theorem R.plain{w j av v}(h:R w j av v)(hp:JE av=true):R w [] av v:=by
 cases h with
 |d h=>exact .d (h.less an)
 |agg vs hs h=>
  refine .agg vs hs fun k hk=> ?_;have h1:=h k hk;simp only[JE,List.all_eq_true] at hp;have h2:=hp _ (List.getElem_mem hk);have e: ∀cs:List AV,∀hk:k<cs.length,cs.getD k .undef=cs[k]:=fun cs hk=>by grind
  rw[e _ hk] at h1⊢;split at h2
  ·rename_i y hy;rw[hy] at h1⊢;cases h1 with|d h1=>exact .d (h1.less an)
  grind
 |_=>simp[JE] at hp
theorem ak.view{P f args args' σ x}(h:ak P f args [] (.d (.v x)))(ha: ∀j w vs,aQ w j σ->Rs w j args' vs->Rs w [] args vs):ak P f args' σ (.d (.v x)):=by
 refine⟨h.1,fun j w vs hS hr=>(h.2 [] w vs ⟨rfl,an,an,an⟩ (ha j w vs hS hr)).mono fun e w'=> ?_⟩;rintro⟨v,r,σ',j',X,he,h1,h2,h3,h4,h5,rfl,rfl,rfl⟩;obtain rfl:j'=[]:=List.length_eq_zero_iff.1 h1.len;have hev:Ev j w j w':=⟨h3.size,fun b hb _=>h3.keep b hb an,fun _ _ h=>h,h3.LH,h3.tY,h3.os,h3.tape,h3.output,h3.lps⟩;refine⟨v,_,σ,j,[],he,⟨hS.len,fun b cb hb=>Nat.lt_of_lt_of_le (hS.lt b cb hb) h3.size,hS.inj,fun b y hy=> ?_⟩,iu h2▸.d (.v _),hev,Nat.le_refl _,.refl _ _,rfl,rfl,rfl⟩;obtain⟨o,ho,hB⟩:=hS.blk b y hy;exact⟨o,ho,hB.mono hev hS.lt (.refl _ _) fun cb hcb=>h3.keep cb (hS.lt b cb ai) an⟩
theorem ZE{w j σ}(hS:aQ w j σ){b sz n row}(hb:σ[b]? =some (.arr sz n row)){v}(h:R w j (.ms b sz 0 n) v):R w [] (.d (.sl none sz n row)) v:=by
 have hf:=h.lf hS hb;have:R w (j.set b none) (.d (.sl none sz n row)) v:=by simp_all [lf,AV.avoids,lQ]
 exact this.plain rfl
theorem ak.abO{P f y σ x b sz n row}(h:ak P f [.d (.sl none sz n row),y] [] (.d (.v x)))(hy:JE y=true)(hb:σ[b]? =some (.arr sz n row)):ak P f [.ms b sz 0 n,y] σ (.d (.v x)):=
 h.view fun j w vs hS hr=>⟨hr.1,fun k hk=>by
  have:=hr.2 k ai;grind [ZE,R.plain]⟩
end Go.aI
