/- Contracts and lemmas, joined out of smaller texts by a program; no conditions. -/
import Derived.Test.YtmahphgjkpgidaaGreatDoorKB25
import Derived.Test.YtmahphgjkpgidaaGreatDoorKB12
import Derived.Lib.ItoaNum
import Derived.Sort.Walk0
set_option linter.unusedVariables false
set_option linter.unusedSimpArgs false
set_option maxHeartbeats 1000000
set_option maxRecDepth 100000
namespace Go.Proofs.YtmahphgjkpgidaaGreatDoor
open Go.aU Go.Shelf Go.RowKit Go.Lib Go.Proofs Go.Sort Go.Proofs.Tryz
variable (σ : List aG)
theorem repX:Builder.Extra prog EX where
 sizeBuilder:=by kernel_rfl
 liesBuilder:=by kernel_rfl
 t5:=underlying5
 a5:=isAgg5
 z5:=sizeOf5
 v5:=zeroValue5
 infoByte:=by kernel_rfl
 cellsByte:=by kernel_rfl
 sizeByte:=by kernel_rfl
 neB5:=by decide
theorem repeat_cs(s:ByteArray)(c:Nat)(hc2:2<=c)(hc:c<=9223372036854775807)(hlen:s.size*c<=140737488355328)(h0:0<s.size):aA prog 351 [.d (Sb s),.d (I c)] σ (.d (Sb ⟨(Lib.repeatL s.data.toList c).toArray⟩)):=by
 refine aA.Ir T.en351 #[.string s,.int .i64 c] (fun w j vs hr=>QB hr (fun _ h=>lM h) (fun _ h=>lM h)) (fun w j hS=> ?_);exact Any.strings_Repeat_main strRepeat repX s c w hc2 hc hlen h0
def gK:Array Value:=(Lib.pow10Tab.map fun z=>Value.int .u64 z).toArray
theorem pow_tab {w : World} {j : Js} {σ : List aG} (hS : aT w j σ) {b : Nat} (h : σ[b]? = some (.tab 0 gK)) : Lib.TabIs prog w "internal/strconv.uint64pow10" .u64 Lib.pow10Tab := by
 obtain⟨e,f,hc⟩:=tab_cells hS h;have hg : prog.globalNamed "internal/strconv.uint64pow10" = some 0 := by kernel_rfl
 unfold Lib.TabIs World.var?;rw[hg];simp only[Option.bind_some,hc];rfl
theorem below_grow(w:World)(os:Array Obj)(k:Nat):Below w.heap.size w (grow (w.drewN k) os):=
 ⟨rfl,rfl,rfl,by simp[grow],fun i hi=>by simp[grow,Array.getElem?_append_left hi]⟩
def ZL(n:Nat):ByteArray:=⟨(Lib.decDigits n).toArray⟩
theorem Xi(n:Nat)(hn:n<=1073741824)(hσ:σ[0]? =some (.tab 0 gK)):aA prog 228 [.d (I n)] σ (.d (Sb (ZL n))):=by
 refine aA.Ir T.en228 #[.int .i64 n] (fun w j vs hr=>rs_vals1 hr (fun _ h=>lM h)) (fun w j hS=> ?_);refine(Any.strconv_Itoa itoa n (by omega) (by omega) w (pow_tab hS hσ)).mono ?_;rintro e w' ⟨rfl,k,os,rfl⟩;exact⟨by rw[Lib.itoa,if_neg (by omega),Int.toNat_natCast];rfl,below_grow w os k⟩
end Go.Proofs.YtmahphgjkpgidaaGreatDoor
namespace Go.Proofs.YtmahphgjkpgidaaGreatDoor
open Go.aU Go.Proofs.Tryz
variable (σ : List aG)
attribute [go_sem] arrV_takeB E9
def vC(b:ByteArray)(i:Nat):Int:=((b[i]?).getD 0).toNat
def GK(s d:Nat->Int):Nat->(Nat->Int)
 |0=>s
 |i+1=>upd (GK s d i) (i/8) (FH .u64 (GK s d i (i/8)) (shlI .u64 (IntKind.u64.wrap (d i)) (8*((i:Int)%8))))
theorem Tq{s d d':Nat->Int} : ∀{n:Nat},(∀i,i<n->d i=d' i)->GK s d n=GK s d' n
 |0,_=>rfl
 |n+1,h=>by
  unfold GK;rw[Tq (n:=n) fun i hi=>h i (by omega),h n (by omega)]
theorem tn_d8(i:Nat):((i:Int)/8).toNat=i/8:=by omega
theorem O6(a:Nat->Int)(b:ByteArray)(hb:b.size=136):aA prog 350 [.agg (dH .u64 25 a),.d (Sb b)] σ (.agg (dH .u64 25 (BX (GK a (vC b) 136) 24))):=by
 refine aA.bd true func350 fun hwf=> ?_;simp[go_sem,hb];refine Pz (α:=Nat) true [1,2,4,7,8] (fun i=>[(8,.d (I i))]) (fun i=>σ++[.var (dH .u64 25 (GK a (vC b) i)),.var (dH .u64 25 fun _=>0)]) (fun i=>i<=136) (fun i=>136-i) 0 (by simp[go_sem]) (rfl) (by simp) ?_;rintro i hi;simp[go_sem];refine aJ [1,2,4,7,8] ?_ ?_<;>intro c0 d0
 ·have hi5:i<136:=by omega
  have hd:i/8<25:=by omega
  have hd4:i/8<=24:=by omega
  have h1:(i:Int).tdiv 8=(i:Int)/8:=Yw (by omega);have h2:IntKind.i64.wrap ((i:Int)/8)=(i:Int)/8:=aH (by omega) (by omega);have h3:(i:Int).tmod 8=(i:Int)%8:=GV (by omega);have h4:IntKind.i64.wrap (8*((i:Int)%8))=8*((i:Int)%8):=aH (by omega) (by omega);have hau:GK a (vC b) (i+1)=upd (GK a (vC b) i) (i/8) (FH .u64 (GK a (vC b) i (i/8)) (shlI .u64 (IntKind.u64.wrap (((b[i]?).getD 0).toNat:Int)) (8*((i:Int)%8)))):=rfl;simp[go_sem];refine T.dr 13 fun K hK=> ?_;simp[go_sem,tn_d8,hb,hi5,hd,hd4,h1,h2,h3,h4];repeat refine⟨by omega,?_⟩
  refine hK _ ?_;refine go true ?_;simp(disch:=first|omega|simp) [go_sem,aH];refine gB (i+1) (by omega) (h:=by simp[go_sem]<;>omega) (hσ:=by simp[go_sem,hb,hi5,hau]) (hb:=au (by simp[go_sem]))
 ·obtain rfl:i=136:=by omega
  simp[go_sem];refine go true ?_;simp[go_sem];refine aO.mk (Jl _ _) ?_;simp[go_sem];refine aj ?_;simp[go_sem];exact yB (k:= .u64) (n:=25) (f:=BX (GK a (vC b) 136) 24)
def IZ(s:Nat->Int)(rest:ByteArray)(n:Int):List AV:=dH .u64 25 s++[.d (Sb rest),.d (I n)]
def restI(p:ByteArray)(i:Nat):ByteArray:=if i=0 then⟨#[]⟩ else p
def takI(p:ByteArray)(i:Nat):Int:=if i=0 then 0 else(p.size:Int)
theorem Ui:CS prog 306 [] σ (fun r σ' X=>r= .ptr σ.length 0/\σ'=σ++[.var (IZ (fun _=>0) ⟨#[]⟩ 0)]/\X=[]):=by
 refine CS.bsW true func306 fun hwf=> ?_;refine aj ?_;simp[go_sem,IZ];rfl
theorem Ub(p:ByteArray)(hp:p.size<=100):CS prog 307 [.ptr σ.length 0,.d (SL (some 1) 1 (fun s:ByteArray=>[Sb s]) 1 (fun _=>p))] (σ++[.var (IZ (fun _=>0) ⟨#[]⟩ 0)]) (fun r σ' X=>r= .d (I p.size)/\σ'=σ++[.var (IZ (fun _=>0) p p.size)]/\X=[]):=by
 refine CS.VD true func307 fun hwf=> ?_;simp[go_sem,IZ];refine Pz (α:=Nat) true [0,7,8,9] (fun i=>[(9,.d (I i))]) (fun i=>σ++[.var (dH .u64 25 (fun _=>0)++[.d (Sb (restI p i)),.d (I (takI p i))])]) (fun i=>i<=1) (fun i=>1-i) 0 (by simp[go_sem]) (rfl) (by simp) ?_;rintro i hi;simp[go_sem];refine aJ [0,7,8,9] ?_ ?_<;>intro c0 d0
 ·have hi0:i=0:=by omega
  subst hi0;have h0:restI p 0=⟨#[]⟩:=rfl;have h1:takI p 0=0:=rfl;have h2:restI p 1=p:=rfl;have h3:takI p 1=p.size:=rfl;have h4:IntKind.i64.wrap (p.size:Int)=p.size:=aH (by omega) (by omega);have h5:(⟨#[]⟩:ByteArray)++p=p:=ByteArray.ext (by rw[ByteArray.data_append];simp);simp(disch:=first|omega|simp) [go_sem,h0,h1,h4,h5];repeat refine⟨by omega,?_⟩
  refine Pz (α:=Nat) true [0,7,8,9] (fun q=>[(9,.d (I 0))]) (fun q=>σ++[.var (dH .u64 25 (fun _=>0)++[.d (Sb p),.d (I p.size)])]) (fun q=>q=0) (fun q=>0) 0 (by simp[go_sem]) (rfl) (by simp) ?_;rintro q hq1;simp[go_sem];refine aJ [0,7,8,9] ?_ ?_<;>intro c1 d1
  ·omega
  ·simp[go_sem];refine go true ?_;simp(disch:=first|omega|simp) [go_sem,aH];refine gB (1) (by omega) (h:=by simp[go_sem,h0,h1]<;>omega) (hσ:=by simp[go_sem,h2,h3]) (hb:=au (by simp[go_sem]))
 ·obtain rfl:i=1:=by omega
  have h2:restI p 1=p:=rfl;have h3:takI p 1=p.size:=rfl;simp[go_sem,h2,h3];refine go true ?_;simp[go_sem];refine aj ?_;simp[go_sem]<;>omega
def WW(p:ByteArray)(q:Nat):Int:=if q<p.size then vC p q else if q=p.size then 6 else 0
def OT(p:ByteArray)(q:Nat):Int:=if q=135 then orI .u8 (WW p 135) 128 else WW p q
def Uy(f:Nat->Int)(q:Nat):List D:=[.v (.int .u8 (f q))]
theorem ZM(f:Nat->Int)(q:Nat):isU8 (Uy f q)=true:=rfl
def stS(p:ByteArray):Nat->Int:=BX (GK (fun _=>0) (OT p) 136) 24
def outF(p:ByteArray)(q:Nat):Int:=IntKind.u8.wrap (shrI .u64 (stS p (q/8)) (8*((q:Int)%8)))
def digS(p:ByteArray):ByteArray:=kY 32 (Uy (outF p))
theorem byteI_lt(b:ByteArray)(i:Nat):0<=vC b i/\vC b i<256:=by
 unfold vC;have:=UInt8.toNat_lt ((b[i]?).getD 0);omega
theorem pad0_lt(p:ByteArray)(q:Nat):0<=WW p q/\WW p q<256:=by
 unfold WW;split
 ·exact byteI_lt p q
 ·split<;>omega
theorem or_lt(a b:Int):0<=orI .u8 a b/\orI .u8 a b<256:=by
 unfold orI;rw[IntKind.wrap_u8];omega
theorem padF_lt(p:ByteArray)(q:Nat):0<=OT p q/\OT p q<256:=by
 unfold OT;split
 ·exact or_lt _ _
 ·exact pad0_lt p q
theorem NQ(n:Nat)(row:Nat->List D):(kY n row).size=n:=by
 unfold kY;rw[strOfNums_size];simp
theorem bytesS_at{n:Nat}{f:Nat->Int}(hf: ∀q,0<=f q/\f q<256){i:Nat}(h:i<n):vC (kY n (Uy f)) i=f i:=by
 unfold vC;have hs:i<(kY n (Uy f)).size:=by rw[NQ];exact h
 rw[getElem?_pos _ i hs];have e:(kY n (Uy f))[i]=UInt8.ofNat (f i).toNat:=by
  show(kY n (Uy f)).data[i]=_
  simp[kY,strOfNums,Uy];rfl
 rw[Option.getD_some,e];have:=hf i;simp;omega
theorem abs_pad(s:Nat->Int)(p:ByteArray):GK s (vC (kY 136 (Uy (OT p)))) 136=GK s (OT p) 136:=
 Tq fun i hi=>bytesS_at (padF_lt p) hi
def repZ(c:Nat):ByteArray:=⟨(Lib.repeatL (⟨#[0]⟩:ByteArray).data.toList c).toArray⟩
def MO(p:ByteArray):ByteArray:=p++⟨#[6]⟩++repZ (135-p.size)
theorem ba_get(b:ByteArray)(i:Nat):b[i]? =b.data[i]? :=by
 by_cases h:i<b.size
 ·have h':i<b.data.size:=h;rw[getElem?_pos b i h,getElem?_pos b.data i h'];rfl
 ·have h': ¬i<b.data.size:=h;rw[getElem?_neg b i h,getElem?_neg b.data i h']
theorem UU(c:Nat):(repZ c).data=(List.replicate c (0:UInt8)).toArray:=by
 have:=Lib.repeatL_replicate 0 1 c;simp only[List.replicate_one,Nat.mul_one] at this;show(Lib.repeatL [0] c).toArray=_
 rw[this]
theorem repZ_size(c:Nat):(repZ c).size=c:=by
 show(repZ c).data.size=c
 rw[UU];simp
theorem Rw(p:ByteArray):(MO p).data=p.data++ #[6]++(List.replicate (135-p.size) (0:UInt8)).toArray:=by
 unfold MO;rw[ByteArray.data_append,ByteArray.data_append,UU]
theorem lastS_size{p:ByteArray}(h:p.size<=100):(MO p).size=136:=by
 show(MO p).data.size=136
 rw[Rw];have e:p.data.size=p.size:=rfl;simp;omega
theorem Vd{p:ByteArray}(h:p.size<=100){i:Nat}(hi:i<136):strRow (MO p) i=Uy (WW p) i:=by
 have e:p.data.size=p.size:=rfl;have key:(((MO p)[i]?).getD 0).toNat=WW p i:=by
  rw[ba_get,Rw];unfold WW;by_cases h1:i<p.size
  ·rw[if_pos h1,Array.append_assoc,Array.getElem?_append_left (by omega)];unfold vC;rw[ba_get]
  ·rw[if_neg h1];by_cases h2:i=p.size
   ·rw[if_pos h2,Array.getElem?_append_left (by simp;omega),Array.getElem?_append_right (by omega),h2,e,Nat.sub_self];rfl
   ·rw[if_neg h2,Array.getElem?_append_right (by simp;omega)];have h3:i-(p.data++ #[6]).size<135-p.size:=by simp;omega
    simp only[List.getElem?_toArray,List.getElem?_replicate,h3,if_true,Option.getD_some];rfl
 unfold strRow Uy;rw[key]
theorem aac(p:ByteArray)(hp:p.size<=100):aA prog 308 [.ptr σ.length 0] (σ++[.var (IZ (fun _=>0) p p.size)]) (.d (Sb (digS p))):=by
 have hs:IntKind.i64.wrap (135-(p.size:Int))=((135-p.size:Nat):Int):=by rw[aH (by omega) (by omega)];omega
 have hrz:=repZ_size (135-p.size);have h6:(⟨#[6]⟩:ByteArray).size=1:=rfl;have h0:(⟨#[0]⟩:ByteArray).size=1:=rfl;have hrp:(⟨(Lib.repeatL [0] (135-p.size)).toArray⟩:ByteArray)=repZ (135-p.size):=rfl;have hls:p++⟨#[6]⟩++repZ (135-p.size)=MO p:=rfl;have hl:=lastS_size hp;have hst:BX (GK (fun _=>0) (vC (kY 136 (Uy (OT p)))) 136) 24=stS p:=by rw[abs_pad];rfl
 have hsz:=ByteArray.size_append (a:=p) (b:=⟨#[6]⟩);have hr5:strRow (MO p) 135=[.v (.int .u8 (WW p 135))]:=Vd hp (by decide);refine aA.bd true func308 fun hwf=> ?_;simp[go_sem,IZ];refine T.dr 13 fun K hK=> ?_;simp[go_sem,hs,h6];repeat refine⟨by omega,?_⟩
 refine dF.mk (repeat_cs _ ⟨#[0]⟩ (135-p.size) (by omega) (by omega) (by rw[h0,Nat.one_mul];omega) (by omega)) ?_;simp[go_sem,hrz,h6,hrp,hls,hl,hsz];repeat refine⟨by omega,?_⟩
 refine hK _ ?_;refine go true ?_;simp[go_sem,hr5];refine aY (σ.length+1) (Uy (OT p)) (by simp[go_sem];exact⟨rfl,rfl,rfl⟩) (by
  intro q hq;by_cases hq5:q=135
  ·subst hq5;simp[go_sem,Uy,OT]
  ·simp[go_sem,hq5,Vd hp hq,Uy,OT]) (by simp[go_sem];rfl) ?_
 apply bW 8 7 9 T.mixed (by kernel_rfl)
 ·intro τ K hK;simp[go_sem,ZM];refine dF.mk (O6 _ (fun _=>0) (kY 136 (Uy (OT p))) (NQ _ _)) ?_;simp[go_sem,hst];exact hK _ _
 intro K hK;simp[go_sem];refine hK _ ?_;refine go false ?_;simp[go_sem];refine dG 5 1 (Uy (outF p)) (by simp[go_sem]) (by simp[go_sem];rfl) ?_;refine go false ?_;simp[go_sem];refine go true ?_;simp[go_sem];refine lpU (α:=Nat) false [4,5,33] [σ.length+3] (fun i=>[(5,.ms (σ.length+3) 1 0 i),(33,.d (I i))]) (fun i=>σ++[.var (IZ (fun _=>0) p p.size),.arr 1 136 (Uy (OT p)),.var (dH .u64 25 (stS p)),.arr 1 i (Uy (outF p))]) (fun i=>i<=32) (fun i=>32-i) 0 (by simp[go_sem]) (rfl) (by simp) (by simp) ?_;rintro i hi;simp[go_sem,IZ];refine go false ?_;simp[go_sem];refine aJ [4,5,33] ?_ ?_<;>intro c0 d0
 ·have hi5:i<32:=by omega
  have hd:i/8<25:=by omega
  have hd4:i/8<=24:=by omega
  have h1:(i:Int).tdiv 8=(i:Int)/8:=Yw (by omega);have h2:IntKind.i64.wrap ((i:Int)/8)=(i:Int)/8:=aH (by omega) (by omega);have h3:(i:Int).tmod 8=(i:Int)%8:=GV (by omega);have h4:IntKind.i64.wrap (8*((i:Int)%8))=8*((i:Int)%8):=aH (by omega) (by omega);have hsc:σ.map (bQ [σ.length+3])=σ:=by
   have h:=(lS.parts hwf 2).1;simpa[Nat.add_assoc] using h
  simp[go_sem];refine go false ?_;simp(disch:=first|omega|simp) [go_sem,hd4,h1,h2,h3,h4,tn_d8,hsc];repeat refine⟨by omega,?_⟩
  refine aY (σ.length+3) (Uy (outF p)) (by simp[go_sem];exact⟨rfl,rfl,rfl⟩) (by intro q hq;unfold bf;split;rfl;rw[show q=i by omega];simp[rowsOf,Uy,outF]) (by simp[go_sem];rfl) ?_;refine go false ?_;simp(disch:=first|omega|simp) [go_sem,aH];refine gB (i+1) (by omega) (h:=by simp[go_sem]<;>omega) (hσ:=by simp[go_sem]) (hb:=au (by simp[go_sem]))
 ·obtain rfl:i=32:=by omega
  simp[go_sem];refine go true ?_;simp[go_sem,ZM];refine aj ?_;simp[go_sem];rfl
theorem Uh(p:ByteArray)(hp:p.size<=100):aA prog 227 [.d (Sb p)] σ (.d (Sb (digS p))):=by
 refine aA.bs true func227 fun hwf=> ?_;refine aO.gen (Ui _) ?_;rintro r σ' X ⟨rfl,rfl,rfl⟩;simp[go_sem];refine aO.gen ((Ub σ p hp).sub (by simp[go_sem,xw,sS,Go.aU.bC,rowsOf])) ?_;rintro r σ' X ⟨rfl,rfl,rfl⟩;simp[go_sem];refine aO.mk (aac σ p hp) (sm ?_);exact aj so
def Lu(a b:Int):Int:=if a<b then-1 else if b<a then 1 else 0
def ltS(a b:ByteArray):Bool:=Op.bytesLess a.toList b.toList
def Dt(a b:ByteArray):Int:=if ltS a b=true then-1 else if(ltS a b||a.toList==b.toList)=false then 1 else 0
theorem dec_len{n:Nat} : ∀{k:Nat},0<k->n<10^k->(Lib.decDigits n).length<=k:=by
 induction n using Nat.strongRecOn with
 |_ n ih=>
 intro k hk hn;rw[Lib.decDigits];split
 ·simp;omega
 ·rcases k with _|_|k
  ·omega
  ·simp at hn;omega
  ·have:=ih (n/10) (by omega) (k:=k+1) (by omega) (by rw[Nat.pow_succ] at hn;omega);simp only[List.length_append,List.length_singleton];omega
theorem uj{n:Nat}(h:n<=1073741824):(ZL n).size<=10:=by
 have:=dec_len (n:=n) (k:=10) (by decide) (by omega);show(Lib.decDigits n).toArray.size<=10
 simpa using this
def textS(ID rd u:Nat):ByteArray:=ZL ID++⟨#[32]⟩++ZL rd++⟨#[32]⟩++ZL u
theorem Pj:(⟨#[32]⟩:ByteArray).size=1:=rfl
theorem textS_size{ID rd u:Nat}(h1:ID<=1073741824)(h2:rd<=1073741824)(h3:u<=1073741824):(textS ID rd u).size<=100:=by
 have:=uj h1;have:=uj h2;have:=uj h3;unfold textS;simp only[ByteArray.size_append,Pj];omega
def keyS(ID rd u:Nat):ByteArray:=digS (textS ID rd u)
def ordU(ID rd:Nat)(x y:Nat):Int:=if Dt (keyS ID rd x) (keyS ID rd y)≠0 then Dt (keyS ID rd x) (keyS ID rd y) else Lu x y
theorem IU(a:Int):aA prog 280 [.d (I a)] σ (.d (B false)):=by
 refine aA.bs true func280 fun hwf=> ?_;exact aj so
theorem cmp_int_cs(a b:Int):aA prog 233 [.d (I a),.d (I b)] σ (.d (I (Lu a b))):=by
 refine aA.bs true func233 fun hwf=> ?_;refine aO.mk (IU _ a) (sm ?_);refine aO.mk (IU _ b) (sm ?_);refine cn [0,1,6] rfl ?_ ?_<;>intro c0 d0<;>try simp at d0
 ·simp[go_sem];refine cn [0,1] rfl ?_ ?_<;>intro c1 d1<;>try simp at d1
  ·simp[go_sem];refine aJ [0,1] ?_ ?_<;>intro c2 d2
   ·have hz:Lu a b= -1:=by unfold Lu;rw[if_pos d2]
    simp[go_sem];rw[hz];exact aj sc
   ·simp[go_sem];refine aJ [] ?_ ?_<;>intro c3 d3
    ·have hz:Lu a b=1:=by unfold Lu;rw[if_neg (by omega),if_pos d3]
     simp[go_sem];rw[hz];exact aj sc
    ·have hz:Lu a b=0:=by unfold Lu;rw[if_neg (by omega),if_neg (by omega)]
     simp[go_sem];rw[hz];exact aj sc
theorem IQ(a:ByteArray):aA prog 311 [.d (Sb a)] σ (.d (B false)):=by
 refine aA.bs true func311 fun hwf=> ?_;exact aj so
theorem cmp_str_cs(a b:ByteArray):aA prog 232 [.d (Sb a),.d (Sb b)] σ (.d (I (Dt a b))):=by
 refine aA.bs true func232 fun hwf=> ?_;refine aO.mk (IQ _ a) (sm ?_);refine aO.mk (IQ _ b) (sm ?_);refine cn [0,1,6] rfl ?_ ?_<;>intro c0 d0<;>try simp at d0
 ·simp[go_sem];refine cn [0,1] rfl ?_ ?_<;>intro c1 d1<;>try simp at d1
  ·simp[go_sem];refine aJ [0,1] ?_ ?_<;>intro c2 d2
   ·have hz:Dt a b= -1:=by unfold Dt ltS;rw[if_pos (by simpa using c2)]
    simp[go_sem];rw[hz];exact aj sc
   ·simp[go_sem];refine aJ [] ?_ ?_<;>intro c3 d3
    ·have hz:Dt a b=1:=by
      unfold Dt ltS;rw[if_neg (by simpa using c2),if_pos (by simp at c2 c3⊢;first|exact⟨c2,c3⟩|exact c3)]
     simp[go_sem];rw[hz];exact aj sc
    ·have hz:Dt a b=0:=by
      unfold Dt ltS;rw[if_neg (by simpa using c2),if_neg (by simp at c2 c3⊢;first|exact fun _=>c3|exact c3)]
     simp[go_sem];rw[hz];exact aj sc
theorem cmp_Or_cs(c:Option Nat)(n:Nat)(g:Nat->Int)(hn:n<1000000000):aA prog 231 [.d (SL c 1 encI n g)] σ (.d (I (aQ g 0 n))):=by
 refine aA.bs true func231 fun hwf=> ?_;refine kQ (α:=Nat) true [3,6,7,8] (fun i=>[(8,.d (I i))]) (fun i=>_) (fun i=>i<=n/\aQ g 0 n=aQ g i (n-i)) (fun i=>n-i) 0 ?_ (hx:=⟨Nat.zero_le _,rfl⟩);rintro i ⟨hi,hx⟩;simp[go_sem];refine aJ [3,6,7,8] ?_ ?_<;>intro c0 d0
 ·have hst:aQ g i (n-i)=if g i≠0 then g i else aQ g (i+1) (n-(i+1)):=by rw[show n-i=(n-(i+1))+1 by omega,aQ]
  simp[go_sem];repeat refine⟨by omega,?_⟩
  refine aJ [3,5,6,7,8] ?_ ?_<;>intro c1 d1
  ·have hz:aQ g 0 n=g i:=by rw[hx,hst,if_pos (by simpa using d1)]
   simp[go_sem];rw[hz];exact aj sc
  ·simp(disch:=first|omega|simp) [go_sem,aH];refine gB (i+1) ⟨by omega,by rw[hx,hst,if_neg (by simp[d1])]⟩ (h:=by simp[go_sem]<;>omega)
 ·have hz:aQ g 0 n=0:=by rw[hx,show n-i=0 by omega];rfl
  simp[go_sem];refine go true (sm ?_);rw[hz];exact aj sc
theorem Xx(ID rd u:Nat)(h1:ID<=1073741824)(h2:rd<=1073741824)(h3:u<=1073741824)(hσ:σ[0]? =some (.tab 0 gK)):aA prog 226 [.d (I u),.el [I ID],.el [I rd]] σ (.d (Sb (keyS ID rd u))):=by
 have s1:=uj h1;have s2:=uj h2;have s3:=uj h3;have ht:ZL ID++⟨#[32]⟩++ZL rd++⟨#[32]⟩++ZL u=textS ID rd u:=rfl;refine aA.bd true func226 fun hwf=> ?_;simp[go_sem];refine T.dr 12 fun K hK=> ?_;simp[go_sem];refine dF.mk (Xi _ ID h1 hσ) ?_;simp[go_sem,Pj];repeat refine⟨by omega,?_⟩
 refine dF.mk (Xi _ rd h2 hσ) ?_;simp[go_sem,ByteArray.size_append,Pj];repeat refine⟨by omega,?_⟩
 refine dF.mk (Xi _ u h3 hσ) ?_;simp[go_sem,ByteArray.size_append,Pj,ht];repeat refine⟨by omega,?_⟩
 refine dF.mk (Uh _ (textS ID rd u) (textS_size h1 h2 h3)) ?_;simp[go_sem];refine hK _ ?_;refine go true ?_;simp[go_sem];refine aj ?_;simp[go_sem,keyS]<;>omega
theorem Xy(ID rd x y:Nat)(pB pR:Value)(hx:aA prog 226 [.d (I x),.d (.v pB),.d (.v pR)] σ (.d (Sb (keyS ID rd x))))(hy:aA prog 226 [.d (I y),.d (.v pB),.d (.v pR)] σ (.d (Sb (keyS ID rd y)))):aA prog 230 [.d (I x),.d (I y),.el [.v (.func (.func 226) #[] #[pB,pR])]] σ (.d (I (ordU ID rd x y))):=by
 refine aA.bs true func230 fun hwf=> ?_;refine T.dr 12 fun K hK=>sm ?_;refine dF.mk (hx) (sm ?_);refine dF.mk (hy) (sm ?_);refine dF.mk (cmp_str_cs _ (keyS ID rd x) (keyS ID rd y)) (sm ?_);refine dF.mk (cmp_int_cs _ x y) (sm ?_);refine dF.mk ((cmp_Or_cs _ none 2 (fun i=>if i=0 then Dt (keyS ID rd x) (keyS ID rd y) else Lu x y) (by omega)).sub (by simp[go_sem,xw,sS,Go.aU.bC]<;>(intro i hi;obtain rfl|rfl:i=0\/i=1:=(by omega);all_goals rfl))) ?_;simp[go_sem];refine hK _ ?_;refine go true (sm ?_);refine aj ?_;have hz:aQ (fun i=>if i=0 then Dt (keyS ID rd x) (keyS ID rd y) else Lu x y) 0 2=ordU ID rd x y:=by
  simp only[aQ,ordU];by_cases h1:Dt (keyS ID rd x) (keyS ID rd y)=0<;>by_cases h2:Lu x y=0<;>simp[h1,h2]
 simp[go_sem,hz]
end Go.Proofs.YtmahphgjkpgidaaGreatDoor
