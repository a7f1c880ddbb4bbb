/- Contracts and lemmas, joined out of smaller texts by a program; no conditions. -/
import Derived.Test.YthlhlnbcjlpigaaGreatDoorKB18
import Derived.Lib.ItoaNum
import Derived.Sort.Walk0
set_option linter.unusedVariables false
set_option linter.unusedSimpArgs false
set_option maxHeartbeats 1000000
set_option maxRecDepth 100000
namespace Go.Proofs.YthlhlnbcjlpigaaGreatDoor
open Go.aU Go.Shelf Go.RowKit Go.Lib Go.Proofs Go.Sort Go.Proofs.Tryz
variable (σ : List aC)
theorem repX:Builder.Extra prog strRepeat_ren where
 sizeBuilder:=by kernel_rfl
 liesBuilder:=by kernel_rfl
 t5:=underlying5
 a5:=isAgg5
 z5:=sizeOf5
 v5:=zeroValue5
 infoByte:=by kernel_rfl
 cellsByte:=by kernel_rfl
 sizeByte:=by kernel_rfl
 neB5:=by decide
theorem repeat_cs(s:ByteArray)(c:Nat)(hc2:2<=c)(hc:c<=9223372036854775807)(hlen:s.size*c<=140737488355328)(h0:0<s.size):ay prog 356 [.d (Sb s),.d (I c)] σ (.d (Sb ⟨(Lib.repeatL s.data.toList c).toArray⟩)):=by
 refine ay.FV T.en356 #[.string s,.int .i64 c] (fun w j vs hr=>MZ hr (fun _ h=>kD h) (fun _ h=>kD h)) (fun w j hS=> ?_);exact Any.strings_Repeat_main strRepeat repX s c w hc2 hc hlen h0
def iR:Array Value:=(Lib.pow10Tab.map fun z=>Value.int .u64 z).toArray
theorem pow_tab {w : World} {j : Js} {σ : List aC} (hS : aS w j σ) {b : Nat} (h : σ[b]? = some (.tab 0 iR)) : Lib.TabIs prog w "internal/strconv.uint64pow10" .u64 Lib.pow10Tab := by
 obtain⟨e,f,hc⟩:=tab_cells hS h;have hg : prog.globalNamed "internal/strconv.uint64pow10" = some 0 := by kernel_rfl
 unfold Lib.TabIs World.var?;rw[hg];simp only[Option.bind_some,hc];rfl
theorem below_grow(w:World)(os:Array Obj)(k:Nat):Below w.heap.size w (grow (w.drewN k) os):=
 ⟨rfl,rfl,rfl,by simp[grow],fun i hi=>by simp[grow,Array.getElem?_append_left hi]⟩
def OO(n:Nat):ByteArray:=⟨(Lib.decDigits n).toArray⟩
theorem BX(n:Nat)(hn:n<=1073741824)(hσ:σ[0]? =some (.tab 0 iR)):ay prog 192 [.d (I n)] σ (.d (Sb (OO n))):=by
 refine ay.FV T.en192 #[.int .i64 n] (fun w j vs hr=>rs_vals1 hr (fun _ h=>kD h)) (fun w j hS=> ?_);refine(Any.strconv_Itoa itoa n (by omega) (by omega) w (pow_tab hS hσ)).mono ?_;rintro e w' ⟨rfl,k,os,rfl⟩;exact⟨by rw[Lib.itoa,if_neg (by omega),Int.toNat_natCast];rfl,below_grow w os k⟩
end Go.Proofs.YthlhlnbcjlpigaaGreatDoor
namespace Go.Proofs.YthlhlnbcjlpigaaGreatDoor
open Go.aU Go.Proofs.Tryz
variable (σ : List aC)
attribute [go_sem] arrV_takeB DJ
def qo(b:ByteArray)(i:Nat):Int:=((b[i]?).getD 0).toNat
def sS(s d:Nat->Int):Nat->(Nat->Int)
 |0=>s
 |i+1=>upd (sS s d i) (i/8) (pJ .u64 (sS s d i (i/8)) (shlI .u64 (IntKind.u64.wrap (d i)) (8*((i:Int)%8))))
theorem P9{s d d':Nat->Int} : ∀{n:Nat},(∀i,i<n->d i=d' i)->sS s d n=sS s d' n
 |0,_=>rfl
 |n+1,h=>by
  unfold sS;rw[P9 (n:=n) fun i hi=>h i (by omega),h n (by omega)]
theorem tn_d8(i:Nat):((i:Int)/8).toNat=i/8:=by omega
theorem KX(a:Nat->Int)(b:ByteArray)(hb:b.size=136):ay prog 355 [.agg (bg .u64 25 a),.d (Sb b)] σ (.agg (bg .u64 25 (nS (sS a (qo b) 136) 24))):=by
 refine ay.bd true func355 fun hwf=> ?_;simp[go_sem,hb];refine zJ (α:=Nat) true [1,2,4,7,8] (fun i=>[(8,.d (I i))]) (fun i=>σ++[.var (bg .u64 25 (sS a (qo b) i)),.var (bg .u64 25 fun _=>0)]) (fun i=>i<=136) (fun i=>136-i) 0 (by simp[go_sem]) (rfl) (by simp) ?_;rintro i hi;simp[go_sem];refine aH [1,2,4,7,8] ?_ ?_<;>intro c0 d0
 ·have hi5:i<136:=by omega
  have hd:i/8<25:=by omega
  have hd4:i/8<=24:=by omega
  have h1:(i:Int).tdiv 8=(i:Int)/8:=Rj (by omega);have h2:IntKind.i64.wrap ((i:Int)/8)=(i:Int)/8:=aA (by omega) (by omega);have h3:(i:Int).tmod 8=(i:Int)%8:=sU (by omega);have h4:IntKind.i64.wrap (8*((i:Int)%8))=8*((i:Int)%8):=aA (by omega) (by omega);have hau:sS a (qo b) (i+1)=upd (sS a (qo b) i) (i/8) (pJ .u64 (sS a (qo b) i (i/8)) (shlI .u64 (IntKind.u64.wrap (((b[i]?).getD 0).toNat:Int)) (8*((i:Int)%8)))):=rfl;simp[go_sem];refine T.dr 13 fun K hK=> ?_;simp[go_sem,tn_d8,hb,hi5,hd,hd4,h1,h2,h3,h4];repeat refine⟨by omega,?_⟩
  refine hK _ ?_;refine go true ?_;simp(disch:=first|omega|simp) [go_sem,aA];refine dB (i+1) (by omega) (h:=by simp[go_sem]<;>omega) (hσ:=by simp[go_sem,hb,hi5,hau]) (hb:=au (by simp[go_sem]))
 ·obtain rfl:i=136:=by omega
  simp[go_sem];refine go true ?_;simp[go_sem];refine aW.mk (Gw _ _) ?_;simp[go_sem];refine aj ?_;simp[go_sem];exact kL (k:= .u64) (n:=25) (f:=nS (sS a (qo b) 136) 24)
def Gm(s:Nat->Int)(rest:ByteArray)(n:Int):List AV:=bg .u64 25 s++[.d (Sb rest),.d (I n)]
def restI(p:ByteArray)(i:Nat):ByteArray:=if i=0 then⟨#[]⟩ else p
def takI(p:ByteArray)(i:Nat):Int:=if i=0 then 0 else(p.size:Int)
theorem QV:CS prog 311 [] σ (fun r σ' X=>r= .ptr σ.length 0/\σ'=σ++[.var (Gm (fun _=>0) ⟨#[]⟩ 0)]/\X=[]):=by
 refine CS.bsW true func311 fun hwf=> ?_;refine aj ?_;simp[go_sem,Gm];rfl
theorem QO(p:ByteArray)(hp:p.size<=100):CS prog 312 [.ptr σ.length 0,.d (SL (some 1) 1 (fun s:ByteArray=>[Sb s]) 1 (fun _=>p))] (σ++[.var (Gm (fun _=>0) ⟨#[]⟩ 0)]) (fun r σ' X=>r= .d (I p.size)/\σ'=σ++[.var (Gm (fun _=>0) p p.size)]/\X=[]):=by
 refine CS.Zh true func312 fun hwf=> ?_;simp[go_sem,Gm];refine zJ (α:=Nat) true [0,7,8,9] (fun i=>[(9,.d (I i))]) (fun i=>σ++[.var (bg .u64 25 (fun _=>0)++[.d (Sb (restI p i)),.d (I (takI p i))])]) (fun i=>i<=1) (fun i=>1-i) 0 (by simp[go_sem]) (rfl) (by simp) ?_;rintro i hi;simp[go_sem];refine aH [0,7,8,9] ?_ ?_<;>intro c0 d0
 ·have hi0:i=0:=by omega
  subst hi0;have h0:restI p 0=⟨#[]⟩:=rfl;have h1:takI p 0=0:=rfl;have h2:restI p 1=p:=rfl;have h3:takI p 1=p.size:=rfl;have h4:IntKind.i64.wrap (p.size:Int)=p.size:=aA (by omega) (by omega);have h5:(⟨#[]⟩:ByteArray)++p=p:=ByteArray.ext (by rw[ByteArray.data_append];simp);simp(disch:=first|omega|simp) [go_sem,h0,h1,h4,h5];repeat refine⟨by omega,?_⟩
  refine zJ (α:=Nat) true [0,7,8,9] (fun q=>[(9,.d (I 0))]) (fun q=>σ++[.var (bg .u64 25 (fun _=>0)++[.d (Sb p),.d (I p.size)])]) (fun q=>q=0) (fun q=>0) 0 (by simp[go_sem]) (rfl) (by simp) ?_;rintro q hq1;simp[go_sem];refine aH [0,7,8,9] ?_ ?_<;>intro c1 d1
  ·omega
  ·simp[go_sem];refine go true ?_;simp(disch:=first|omega|simp) [go_sem,aA];refine dB (1) (by omega) (h:=by simp[go_sem,h0,h1]<;>omega) (hσ:=by simp[go_sem,h2,h3]) (hb:=au (by simp[go_sem]))
 ·obtain rfl:i=1:=by omega
  have h2:restI p 1=p:=rfl;have h3:takI p 1=p.size:=rfl;simp[go_sem,h2,h3];refine go true ?_;simp[go_sem];refine aj ?_;simp[go_sem]<;>omega
def vG(p:ByteArray)(q:Nat):Int:=if q<p.size then qo p q else if q=p.size then 6 else 0
def nK(p:ByteArray)(q:Nat):Int:=if q=135 then orI .u8 (vG p 135) 128 else vG p q
def uO(f:Nat->Int)(q:Nat):List D:=[.v (.int .u8 (f q))]
theorem OT(f:Nat->Int)(q:Nat):isU8 (uO f q)=true:=rfl
def stS(p:ByteArray):Nat->Int:=nS (sS (fun _=>0) (nK p) 136) 24
def UG(p:ByteArray)(q:Nat):Int:=IntKind.u8.wrap (Z7 .u64 (stS p (q/8)) (8*((q:Int)%8)))
def digS(p:ByteArray):ByteArray:=jY 32 (uO (UG p))
theorem byteI_lt(b:ByteArray)(i:Nat):0<=qo b i/\qo b i<256:=by
 unfold qo;have:=UInt8.toNat_lt ((b[i]?).getD 0);omega
theorem pad0_lt(p:ByteArray)(q:Nat):0<=vG p q/\vG p q<256:=by
 unfold vG;split
 ·exact byteI_lt p q
 ·split<;>omega
theorem or_lt(a b:Int):0<=orI .u8 a b/\orI .u8 a b<256:=by
 unfold orI;rw[IntKind.wrap_u8];omega
theorem padF_lt(p:ByteArray)(q:Nat):0<=nK p q/\nK p q<256:=by
 unfold nK;split
 ·exact or_lt _ _
 ·exact pad0_lt p q
theorem J3(n:Nat)(row:Nat->List D):(jY n row).size=n:=by
 unfold jY;rw[strOfNums_size];simp
theorem bytesS_at{n:Nat}{f:Nat->Int}(hf: ∀q,0<=f q/\f q<256){i:Nat}(h:i<n):qo (jY n (uO f)) i=f i:=by
 unfold qo;have hs:i<(jY n (uO f)).size:=by rw[J3];exact h
 rw[getElem?_pos _ i hs];have e:(jY n (uO f))[i]=UInt8.ofNat (f i).toNat:=by
  show(jY n (uO f)).data[i]=_
  simp[jY,strOfNums,uO];rfl
 rw[Option.getD_some,e];have:=hf i;simp;omega
theorem abs_pad(s:Nat->Int)(p:ByteArray):sS s (qo (jY 136 (uO (nK p)))) 136=sS s (nK p) 136:=
 P9 fun i hi=>bytesS_at (padF_lt p) hi
def repZ(c:Nat):ByteArray:=⟨(Lib.repeatL (⟨#[0]⟩:ByteArray).data.toList c).toArray⟩
def JF(p:ByteArray):ByteArray:=p++⟨#[6]⟩++repZ (135-p.size)
theorem ba_get(b:ByteArray)(i:Nat):b[i]? =b.data[i]? :=by
 by_cases h:i<b.size
 ·have h':i<b.data.size:=h;rw[getElem?_pos b i h,getElem?_pos b.data i h'];rfl
 ·have h': ¬i<b.data.size:=h;rw[getElem?_neg b i h,getElem?_neg b.data i h']
theorem Ry(c:Nat):(repZ c).data=(List.replicate c (0:UInt8)).toArray:=by
 have:=Lib.repeatL_replicate 0 1 c;simp only[List.replicate_one,Nat.mul_one] at this;show(Lib.repeatL [0] c).toArray=_
 rw[this]
theorem repZ_size(c:Nat):(repZ c).size=c:=by
 show(repZ c).data.size=c
 rw[Ry];simp
theorem OI(p:ByteArray):(JF p).data=p.data++ #[6]++(List.replicate (135-p.size) (0:UInt8)).toArray:=by
 unfold JF;rw[ByteArray.data_append,ByteArray.data_append,Ry]
theorem aax{p:ByteArray}(h:p.size<=100):(JF p).size=136:=by
 show(JF p).data.size=136
 rw[OI];have e:p.data.size=p.size:=rfl;simp;omega
theorem Sr{p:ByteArray}(h:p.size<=100){i:Nat}(hi:i<136):strRow (JF p) i=uO (vG p) i:=by
 have e:p.data.size=p.size:=rfl;have key:(((JF p)[i]?).getD 0).toNat=vG p i:=by
  rw[ba_get,OI];unfold vG;by_cases h1:i<p.size
  ·rw[if_pos h1,Array.append_assoc,Array.getElem?_append_left (by omega)];unfold qo;rw[ba_get]
  ·rw[if_neg h1];by_cases h2:i=p.size
   ·rw[if_pos h2,Array.getElem?_append_left (by simp;omega),Array.getElem?_append_right (by omega),h2,e,Nat.sub_self];rfl
   ·rw[if_neg h2,Array.getElem?_append_right (by simp;omega)];have h3:i-(p.data++ #[6]).size<135-p.size:=by simp;omega
    simp only[List.getElem?_toArray,List.getElem?_replicate,h3,if_true,Option.getD_some];rfl
 unfold strRow uO;rw[key]
theorem Yg(p:ByteArray)(hp:p.size<=100):ay prog 313 [.ptr σ.length 0] (σ++[.var (Gm (fun _=>0) p p.size)]) (.d (Sb (digS p))):=by
 have hs:IntKind.i64.wrap (135-(p.size:Int))=((135-p.size:Nat):Int):=by rw[aA (by omega) (by omega)];omega
 have hrz:=repZ_size (135-p.size);have h6:(⟨#[6]⟩:ByteArray).size=1:=rfl;have h0:(⟨#[0]⟩:ByteArray).size=1:=rfl;have hrp:(⟨(Lib.repeatL [0] (135-p.size)).toArray⟩:ByteArray)=repZ (135-p.size):=rfl;have hls:p++⟨#[6]⟩++repZ (135-p.size)=JF p:=rfl;have hl:=aax hp;have hst:nS (sS (fun _=>0) (qo (jY 136 (uO (nK p)))) 136) 24=stS p:=by rw[abs_pad];rfl
 have hsz:=ByteArray.size_append (a:=p) (b:=⟨#[6]⟩);have hr5:strRow (JF p) 135=[.v (.int .u8 (vG p 135))]:=Sr hp (by decide);refine ay.bd true func313 fun hwf=> ?_;simp[go_sem,Gm];refine T.dr 13 fun K hK=> ?_;simp[go_sem,hs,h6];repeat refine⟨by omega,?_⟩
 refine dS.mk (repeat_cs _ ⟨#[0]⟩ (135-p.size) (by omega) (by omega) (by rw[h0,Nat.one_mul];omega) (by omega)) ?_;simp[go_sem,hrz,h6,hrp,hls,hl,hsz];repeat refine⟨by omega,?_⟩
 refine hK _ ?_;refine go true ?_;simp[go_sem,hr5];refine bC (σ.length+1) (uO (nK p)) (by simp[go_sem];exact⟨rfl,rfl,rfl⟩) (by
  intro q hq;by_cases hq5:q=135
  ·subst hq5;simp[go_sem,uO,nK]
  ·simp[go_sem,hq5,Sr hp hq,uO,nK]) (by simp[go_sem];rfl) ?_
 apply jm 8 7 9 T.mixed (by kernel_rfl)
 ·intro τ K hK;simp[go_sem,OT];refine dS.mk (KX _ (fun _=>0) (jY 136 (uO (nK p))) (J3 _ _)) ?_;simp[go_sem,hst];exact hK _ _
 intro K hK;simp[go_sem];refine hK _ ?_;refine go false ?_;simp[go_sem];refine dn 5 1 (uO (UG p)) (by simp[go_sem]) (by simp[go_sem];rfl) ?_;refine go false ?_;simp[go_sem];refine go true ?_;simp[go_sem];refine lpU (α:=Nat) false [4,5,33] [σ.length+3] (fun i=>[(5,.ms (σ.length+3) 1 0 i),(33,.d (I i))]) (fun i=>σ++[.var (Gm (fun _=>0) p p.size),.arr 1 136 (uO (nK p)),.var (bg .u64 25 (stS p)),.arr 1 i (uO (UG p))]) (fun i=>i<=32) (fun i=>32-i) 0 (by simp[go_sem]) (rfl) (by simp) (by simp) ?_;rintro i hi;simp[go_sem,Gm];refine go false ?_;simp[go_sem];refine aH [4,5,33] ?_ ?_<;>intro c0 d0
 ·have hi5:i<32:=by omega
  have hd:i/8<25:=by omega
  have hd4:i/8<=24:=by omega
  have h1:(i:Int).tdiv 8=(i:Int)/8:=Rj (by omega);have h2:IntKind.i64.wrap ((i:Int)/8)=(i:Int)/8:=aA (by omega) (by omega);have h3:(i:Int).tmod 8=(i:Int)%8:=sU (by omega);have h4:IntKind.i64.wrap (8*((i:Int)%8))=8*((i:Int)%8):=aA (by omega) (by omega);have hsc:σ.map (bW [σ.length+3])=σ:=by
   have h:=(sF.parts hwf 2).1;simpa[Nat.add_assoc] using h
  simp[go_sem];refine go false ?_;simp(disch:=first|omega|simp) [go_sem,hd4,h1,h2,h3,h4,tn_d8,hsc];repeat refine⟨by omega,?_⟩
  refine bC (σ.length+3) (uO (UG p)) (by simp[go_sem];exact⟨rfl,rfl,rfl⟩) (by intro q hq;unfold aX;split;rfl;rw[show q=i by omega];simp[rowsOf,uO,UG]) (by simp[go_sem];rfl) ?_;refine go false ?_;simp(disch:=first|omega|simp) [go_sem,aA];refine dB (i+1) (by omega) (h:=by simp[go_sem]<;>omega) (hσ:=by simp[go_sem]) (hb:=au (by simp[go_sem]))
 ·obtain rfl:i=32:=by omega
  simp[go_sem];refine go true ?_;simp[go_sem,OT];refine aj ?_;simp[go_sem];rfl
theorem QU(p:ByteArray)(hp:p.size<=100):ay prog 242 [.d (Sb p)] σ (.d (Sb (digS p))):=by
 refine ay.bs true func242 fun hwf=> ?_;refine aW.gen (QV _) ?_;rintro r σ' X ⟨rfl,rfl,rfl⟩;simp[go_sem];refine aW.gen ((QO σ p hp).sub (by simp[go_sem,xZ,uT,Go.aU.dD,rowsOf])) ?_;rintro r σ' X ⟨rfl,rfl,rfl⟩;simp[go_sem];refine aW.mk (Yg σ p hp) (sm ?_);exact aj so
def IY(a b:Int):Int:=if a<b then-1 else if b<a then 1 else 0
def Qd(a b:ByteArray):Bool:=Op.bytesLess a.toList b.toList
def AA(a b:ByteArray):Int:=if Qd a b=true then-1 else if(Qd a b||a.toList==b.toList)=false then 1 else 0
theorem dec_len{n:Nat} : ∀{k:Nat},0<k->n<10^k->(Lib.decDigits n).length<=k:=by
 induction n using Nat.strongRecOn with
 |_ n ih=>
 intro k hk hn;rw[Lib.decDigits];split
 ·simp;omega
 ·rcases k with _|_|k
  ·omega
  ·simp at hn;omega
  ·have:=ih (n/10) (by omega) (k:=k+1) (by omega) (by rw[Nat.pow_succ] at hn;omega);simp only[List.length_append,List.length_singleton];omega
theorem kF{n:Nat}(h:n<=1073741824):(OO n).size<=10:=by
 have:=dec_len (n:=n) (k:=10) (by decide) (by omega);show(Lib.decDigits n).toArray.size<=10
 simpa using this
def textS(ID rd u:Nat):ByteArray:=OO ID++⟨#[32]⟩++OO rd++⟨#[32]⟩++OO u
theorem wJ:(⟨#[32]⟩:ByteArray).size=1:=rfl
theorem L8{ID rd u:Nat}(h1:ID<=1073741824)(h2:rd<=1073741824)(h3:u<=1073741824):(textS ID rd u).size<=100:=by
 have:=kF h1;have:=kF h2;have:=kF h3;unfold textS;simp only[ByteArray.size_append,wJ];omega
def keyS(ID rd u:Nat):ByteArray:=digS (textS ID rd u)
def ordU(ID rd:Nat)(x y:Nat):Int:=if AA (keyS ID rd x) (keyS ID rd y)≠0 then AA (keyS ID rd x) (keyS ID rd y) else IY x y
theorem Gh(a:Int):ay prog 253 [.d (I a)] σ (.d (B false)):=by
 refine ay.bs true func253 fun hwf=> ?_;exact aj so
theorem cmp_int_cs(a b:Int):ay prog 247 [.d (I a),.d (I b)] σ (.d (I (IY a b))):=by
 refine ay.bs true func247 fun hwf=> ?_;refine aW.mk (Gh _ a) (sm ?_);refine aW.mk (Gh _ b) (sm ?_);refine cn [0,1,6] rfl ?_ ?_<;>intro c0 d0<;>try simp at d0
 ·simp[go_sem];refine cn [0,1] rfl ?_ ?_<;>intro c1 d1<;>try simp at d1
  ·simp[go_sem];refine aH [0,1] ?_ ?_<;>intro c2 d2
   ·have hz:IY a b= -1:=by unfold IY;rw[if_pos d2]
    simp[go_sem];rw[hz];exact aj sc
   ·simp[go_sem];refine aH [] ?_ ?_<;>intro c3 d3
    ·have hz:IY a b=1:=by unfold IY;rw[if_neg (by omega),if_pos d3]
     simp[go_sem];rw[hz];exact aj sc
    ·have hz:IY a b=0:=by unfold IY;rw[if_neg (by omega),if_neg (by omega)]
     simp[go_sem];rw[hz];exact aj sc
theorem Gg(a:ByteArray):ay prog 315 [.d (Sb a)] σ (.d (B false)):=by
 refine ay.bs true func315 fun hwf=> ?_;exact aj so
theorem cmp_str_cs(a b:ByteArray):ay prog 246 [.d (Sb a),.d (Sb b)] σ (.d (I (AA a b))):=by
 refine ay.bs true func246 fun hwf=> ?_;refine aW.mk (Gg _ a) (sm ?_);refine aW.mk (Gg _ b) (sm ?_);refine cn [0,1,6] rfl ?_ ?_<;>intro c0 d0<;>try simp at d0
 ·simp[go_sem];refine cn [0,1] rfl ?_ ?_<;>intro c1 d1<;>try simp at d1
  ·simp[go_sem];refine aH [0,1] ?_ ?_<;>intro c2 d2
   ·have hz:AA a b= -1:=by unfold AA Qd;rw[if_pos (by simpa using c2)]
    simp[go_sem];rw[hz];exact aj sc
   ·simp[go_sem];refine aH [] ?_ ?_<;>intro c3 d3
    ·have hz:AA a b=1:=by
      unfold AA Qd;rw[if_neg (by simpa using c2),if_pos (by simp at c2 c3⊢;first|exact⟨c2,c3⟩|exact c3)]
     simp[go_sem];rw[hz];exact aj sc
    ·have hz:AA a b=0:=by
      unfold AA Qd;rw[if_neg (by simpa using c2),if_neg (by simp at c2 c3⊢;first|exact fun _=>c3|exact c3)]
     simp[go_sem];rw[hz];exact aj sc
theorem cmp_Or_cs(c:Option Nat)(n:Nat)(g:Nat->Int)(hn:n<1000000000):ay prog 245 [.d (SL c 1 encI n g)] σ (.d (I (aI g 0 n))):=by
 refine ay.bs true func245 fun hwf=> ?_;refine gy (α:=Nat) true [3,6,7,8] (fun i=>[(8,.d (I i))]) (fun i=>_) (fun i=>i<=n/\aI g 0 n=aI g i (n-i)) (fun i=>n-i) 0 ?_ (hx:=⟨Nat.zero_le _,rfl⟩);rintro i ⟨hi,hx⟩;simp[go_sem];refine aH [3,6,7,8] ?_ ?_<;>intro c0 d0
 ·have hst:aI g i (n-i)=if g i≠0 then g i else aI g (i+1) (n-(i+1)):=by rw[show n-i=(n-(i+1))+1 by omega,aI]
  simp[go_sem];repeat refine⟨by omega,?_⟩
  refine aH [3,5,6,7,8] ?_ ?_<;>intro c1 d1
  ·have hz:aI g 0 n=g i:=by rw[hx,hst,if_pos (by simpa using d1)]
   simp[go_sem];rw[hz];exact aj sc
  ·simp(disch:=first|omega|simp) [go_sem,aA];refine dB (i+1) ⟨by omega,by rw[hx,hst,if_neg (by simp[d1])]⟩ (h:=by simp[go_sem]<;>omega)
 ·have hz:aI g 0 n=0:=by rw[hx,show n-i=0 by omega];rfl
  simp[go_sem];refine go true (sm ?_);rw[hz];exact aj sc
theorem Vm(ID rd u:Nat)(h1:ID<=1073741824)(h2:rd<=1073741824)(h3:u<=1073741824)(hσ:σ[0]? =some (.tab 0 iR)):ay prog 241 [.d (I u),.el [I ID],.el [I rd]] σ (.d (Sb (keyS ID rd u))):=by
 have s1:=kF h1;have s2:=kF h2;have s3:=kF h3;have ht:OO ID++⟨#[32]⟩++OO rd++⟨#[32]⟩++OO u=textS ID rd u:=rfl;refine ay.bd true func241 fun hwf=> ?_;simp[go_sem];refine T.dr 12 fun K hK=> ?_;simp[go_sem];refine dS.mk (BX _ ID h1 hσ) ?_;simp[go_sem,wJ];repeat refine⟨by omega,?_⟩
 refine dS.mk (BX _ rd h2 hσ) ?_;simp[go_sem,ByteArray.size_append,wJ];repeat refine⟨by omega,?_⟩
 refine dS.mk (BX _ u h3 hσ) ?_;simp[go_sem,ByteArray.size_append,wJ,ht];repeat refine⟨by omega,?_⟩
 refine dS.mk (QU _ (textS ID rd u) (L8 h1 h2 h3)) ?_;simp[go_sem];refine hK _ ?_;refine go true ?_;simp[go_sem];refine aj ?_;simp[go_sem,keyS]<;>omega
theorem Vo(ID rd x y:Nat)(pB pR:Value)(hx:ay prog 241 [.d (I x),.d (.v pB),.d (.v pR)] σ (.d (Sb (keyS ID rd x))))(hy:ay prog 241 [.d (I y),.d (.v pB),.d (.v pR)] σ (.d (Sb (keyS ID rd y)))):ay prog 244 [.d (I x),.d (I y),.el [.v (.func (.func 241) #[] #[pB,pR])]] σ (.d (I (ordU ID rd x y))):=by
 refine ay.bs true func244 fun hwf=> ?_;refine T.dr 12 fun K hK=>sm ?_;refine dS.mk (hx) (sm ?_);refine dS.mk (hy) (sm ?_);refine dS.mk (cmp_str_cs _ (keyS ID rd x) (keyS ID rd y)) (sm ?_);refine dS.mk (cmp_int_cs _ x y) (sm ?_);refine dS.mk ((cmp_Or_cs _ none 2 (fun i=>if i=0 then AA (keyS ID rd x) (keyS ID rd y) else IY x y) (by omega)).sub (by simp[go_sem,xZ,uT,Go.aU.dD]<;>(intro i hi;obtain rfl|rfl:i=0\/i=1:=(by omega);all_goals rfl))) ?_;simp[go_sem];refine hK _ ?_;refine go true (sm ?_);refine aj ?_;have hz:aI (fun i=>if i=0 then AA (keyS ID rd x) (keyS ID rd y) else IY x y) 0 2=ordU ID rd x y:=by
  simp only[aI,ordU];by_cases h1:AA (keyS ID rd x) (keyS ID rd y)=0<;>by_cases h2:IY x y=0<;>simp[h1,h2]
 simp[go_sem,hz]
end Go.Proofs.YthlhlnbcjlpigaaGreatDoor
