import Derived.Test.YtpefcgiiigdcdaaGreatTA
namespace Go.Ab.M
open Go.Proofs
set_option linter.unusedVariables false
set_option maxRecDepth 100000
def FQ (l:List Int) (n:Int):St:=⟨19,0,[(0,SL (cI .u32) l),(3,I n)],[]⟩
def Fh (l:List Int) (n:Int):St:=⟨19,0,[(3,I n)],[]⟩
def sK (l:List Int) (n:Int):Option (Int⊕Int):=
 bif decide (n>0) then
 bif inK .i64 (n-1) then
 bif decide (0≤n-1) then
 bif decide ((n-1).toNat<l.length) then
 bif (nth l ((n-1).toNat))==0 then
 bif inK .i64 (n-1) then
 some (.inl (n-1))
 else none
 else
 some (.inr n)
 else none
 else none
 else none
 else
 some (.inr n)
theorem WT (l:List Int):∀σ:Int,aJ Tryz.prog (nav [1,1,0,0,0] (ah Tryz.f221)) (fun (σ:Int)=>FQ l σ) (fun (_:Int)=>(.exit 0)) (fun (y:Int)=>Fh l y) σ (sK l σ)
 | n=>aB 1010 (.br 20006 (.op 20012 (.el (cI .u32) l .dn) (.br 100000015 (.ps 1000003 [.k [0,3] []] (.ret (.inl (n-1)))) (.ps 1000003 [.k [3] []] (.ret (.inr n))))) (.ps 1000003 [.k [3] []] (.ret (.inr n)))) (by kernel_rfl)
def Ie (l:List Int) (n:Int):Option Int:=aK (fun (σ:Int)=>sK l σ) FU n
theorem Xh (l:List Int) (n:Int):∀y:Int,Ie l n=some y→Runs Tryz.prog (.loop (nav [1,1,0,0,0] (ah Tryz.f221))) (FQ l n) ((.exit 0)) ((fun (y:Int)=>Fh l y) y):=
 aU (head:=fun (σ:Int)=>FQ l σ) (eo:=fun (_:Int)=>(.exit 0)) (so:=fun (y:Int)=>Fh l y) (WT l) (fun _ h=>by cases h) FU n
def sG (l:List Int):Option Int:=
 (Ie l ((l.length:Nat):Int)).bind fun x0=>
 some x0
theorem o8 (l:List Int):∀r,sG l=some r→aj Tryz.prog 221 0 [SL (cI .u32) l] [] (I r) []:=
 ak (enc:=fun r=>I r) (aP:=fun r=>[]) 10 (.op 10002 (.ln (cI .u32) l) (.ps 1000001 [.k [0,3] []] (.lp1 0 (Xh l ((l.length:Nat):Int)) fun x0=>.ret x0))) Tryz.func221 (by kernel_rfl) (by kernel_rfl) (by kernel_rfl)
def kV (x:Int):Option Int:=
 bif decide (x≥65536) then
 bif decide ((bn .u32 x 16)≥256) then
 bif decide (0≤IntKind.wrap .u8 (bn .u32 (bn .u32 x 16) 8)) then
 bif decide ((IntKind.wrap .u8 (bn .u32 (bn .u32 x 16) 8)).toNat<bK.size) then
 bif inK .i64 ((bK.get! ((IntKind.wrap .u8 (bn .u32 (bn .u32 x 16) 8)).toNat)).toNat:Int) then
 bif inK .i64 ((16+8)+((bK.get! ((IntKind.wrap .u8 (bn .u32 (bn .u32 x 16) 8)).toNat)).toNat:Int)) then
 some ((16+8)+((bK.get! ((IntKind.wrap .u8 (bn .u32 (bn .u32 x 16) 8)).toNat)).toNat:Int))
 else none
 else none
 else none
 else none
 else
 bif decide (0≤IntKind.wrap .u8 (bn .u32 x 16)) then
 bif decide ((IntKind.wrap .u8 (bn .u32 x 16)).toNat<bK.size) then
 bif inK .i64 ((bK.get! ((IntKind.wrap .u8 (bn .u32 x 16)).toNat)).toNat:Int) then
 bif inK .i64 (16+((bK.get! ((IntKind.wrap .u8 (bn .u32 x 16)).toNat)).toNat:Int)) then
 some (16+((bK.get! ((IntKind.wrap .u8 (bn .u32 x 16)).toNat)).toNat:Int))
 else none
 else none
 else none
 else none
 else
 bif decide (x≥256) then
 bif decide (0≤IntKind.wrap .u8 (bn .u32 x 8)) then
 bif decide ((IntKind.wrap .u8 (bn .u32 x 8)).toNat<bK.size) then
 bif inK .i64 ((bK.get! ((IntKind.wrap .u8 (bn .u32 x 8)).toNat)).toNat:Int) then
 bif inK .i64 ((0+8)+((bK.get! ((IntKind.wrap .u8 (bn .u32 x 8)).toNat)).toNat:Int)) then
 some ((0+8)+((bK.get! ((IntKind.wrap .u8 (bn .u32 x 8)).toNat)).toNat:Int))
 else none
 else none
 else none
 else none
 else
 bif decide (0≤IntKind.wrap .u8 x) then
 bif decide ((IntKind.wrap .u8 x).toNat<bK.size) then
 bif inK .i64 ((bK.get! ((IntKind.wrap .u8 x).toNat)).toNat:Int) then
 bif inK .i64 (0+((bK.get! ((IntKind.wrap .u8 x).toNat)).toNat:Int)) then
 some (0+((bK.get! ((IntKind.wrap .u8 x).toNat)).toNat:Int))
 else none
 else none
 else none
 else none
theorem Nu (x:Int):∀r,kV x=some r→aj Tryz.prog 204 0 [NI .u32 x] [] (I r) []:=
 ak (enc:=fun r=>I r) (aP:=fun r=>[]) 10 (.br 100000004 (.br 100000008 (.op 70004 .wr (.op 70006 (.ch bK .dn) (.ret ((16+8)+((bK.get! ((IntKind.wrap .u8 (bn .u32 (bn .u32 x 16) 8)).toNat)).toNat:Int))))) (.op 70004 .wr (.op 70006 (.ch bK .dn) (.ret (16+((bK.get! ((IntKind.wrap .u8 (bn .u32 x 16)).toNat)).toNat:Int)))))) (.br 100000008 (.op 70004 .wr (.op 70006 (.ch bK .dn) (.ret ((0+8)+((bK.get! ((IntKind.wrap .u8 (bn .u32 x 8)).toNat)).toNat:Int))))) (.op 70004 .wr (.op 70006 (.ch bK .dn) (.ret (0+((bK.get! ((IntKind.wrap .u8 x).toNat)).toNat:Int))))))) Tryz.func204 (by kernel_rfl) (by kernel_rfl) (by kernel_rfl)
def uJ (a:Int):Option Int:=
 (kV a).bind fun x0=>
 some x0
theorem P8 (a:Int):∀r,uJ a=some r→aj Tryz.prog 255 0 [NI .u32 a] [] (I r) []:=
 ak (enc:=fun r=>I r) (aP:=fun r=>[]) 10 (.call [] [] (Nu a) .no fun x0=>.ret x0) Tryz.func255 (by kernel_rfl) (by kernel_rfl) (by kernel_rfl)
def lC (a:List Int):Option Int:=
 (sG a).bind fun x0=>
 bif x0==0 then
 some 0
 else
 bif inK .i64 (x0-1) then
 bif inK .i64 (32*(x0-1)) then
 bif inK .i64 (x0-1) then
 bif decide (0≤x0-1) then
 bif decide ((x0-1).toNat<a.length) then
 (uJ (nth a ((x0-1).toNat))).bind fun x1=>
 bif inK .i64 ((32*(x0-1))+x1) then
 some ((32*(x0-1))+x1)
 else none
 else none
 else none
 else none
 else none
 else none
theorem uh (a:List Int):∀r,lC a=some r→aj Tryz.prog 218 0 [SL (cI .u32) a] [] (I r) []:=
 ak (enc:=fun r=>I r) (aP:=fun r=>[]) 10 (.call [] [] (o8 a) .no fun x0=>.br 100000007 (.ret 0) (.op 40012 (.el (cI .u32) a .dn) (.call [] [] (P8 (nth a ((x0-1).toNat))) .no fun x1=>.ret ((32*(x0-1))+x1)))) Tryz.func218 (by kernel_rfl) (by kernel_rfl) (by kernel_rfl)
def iF (a:List Int):Option (List Int):=
 (sG a).bind fun x0=>
 bif x0==0 then
 some []
 else
 bif decide (0≤x0) then
 bif decide (x0.toNat≤2147483648) then
 some (a.take (List.replicate x0.toNat 0:List Int).length++(List.replicate x0.toNat 0:List Int).drop a.length)
 else none
 else none
theorem iC (a:List Int):∀r,iF a=some r→aj Tryz.prog 159 0 [SL (cI .u32) a] [] (SL (cI .u32) r) []:=
 ak (enc:=fun r=>SL (cI .u32) r) (aP:=fun r=>[]) 10 (.call [] [] (o8 a) .no fun x0=>.br 100000008 (.ps 1000003 [.n 2] (.ret [])) (.op 40002 (.mk (cI .u32) 0 .dn) (.op 50004 (.ap (cI .u32) (List.replicate x0.toNat 0) a 1 fun _=>⟨rfl,rfl⟩) (.ps 1000003 [.z 2] (.ret (a.take (List.replicate x0.toNat 0:List Int).length++(List.replicate x0.toNat 0:List Int).drop a.length)))))) Tryz.func159 (by kernel_rfl) (by kernel_rfl) (by kernel_rfl)
def Dy (l:List Int) (n:Int) (i:Nat):St:=⟨18,0,[(3,NI .u64 n),(6,SL (cI .u32) l),(7,I ((l.length:Nat):Int)),(8,I ((i:Nat):Int))],[]⟩
def C9 (l:List Int) (n:Int):St:=⟨18,0,[(3,NI .u64 n)],[]⟩
def bf (l:List Int) (n:Int) (i:Nat):Option ((Int×Nat)⊕Int):=
 bif decide (((i:Nat):Int)<((l.length:Nat):Int)) then
 bif decide (i<l.length) then
 bif inK .u64 (nth l i) then
 bif inK .i64 (((i:Nat):Int)+1) then
 some (.inl (IntKind.wrap .u64 (n+(nth l i)),i+1))
 else none
 else none
 else none
 else
 some (.inr n)
theorem Vf (l:List Int):∀σ:Int×Nat,aJ Tryz.prog (nav [1,1,0,1,0,0] (ah Tryz.f254)) (fun (σ:Int×Nat)=>Dy l σ.1 σ.2) (fun (_:Int)=>(.exit 0)) (fun (y:Int)=>C9 l y) σ (bf l σ.1 σ.2)
 | (n,i)=>aB 1010 (.br 100000009 (.op 40000 (.el (cI .u32) l (.up i)) (.ps 1000003 [.k [3,6,7,8] []] (.ret (.inl (IntKind.wrap .u64 (n+(nth l i)),i+1))))) (.ps 1000003 [.k [3] []] (.ret (.inr n)))) (by kernel_rfl)
def nG (l:List Int) (n:Int) (i:Nat):Option Int:=aK (fun (σ:Int×Nat)=>bf l σ.1 σ.2) FU (n,i)
theorem Vu (l:List Int) (n:Int) (i:Nat):∀y:Int,nG l n i=some y→Runs Tryz.prog (.loop (nav [1,1,0,1,0,0] (ah Tryz.f254))) (Dy l n i) ((.exit 0)) ((fun (y:Int)=>C9 l y) y):=
 aU (head:=fun (σ:Int×Nat)=>Dy l σ.1 σ.2) (eo:=fun (_:Int)=>(.exit 0)) (so:=fun (y:Int)=>C9 l y) (Vf l) (fun _ h=>by cases h) FU (n,i)
def mV (l:List Int):Option Int:=
 (nG l 0 0).bind fun x0=>
 some x0
theorem BA (l:List Int):∀r,mV l=some r→aj Tryz.prog 254 0 [SL (cI .u32) l] [] (NI .u64 r) []:=
 ak (enc:=fun r=>NI .u64 r) (aP:=fun r=>[]) 10 (.op 20002 (.ln (cI .u32) l) (.ps 1000001 [.k [3,6,7,8] []] (.lp1 0 (Vu l 0 0) fun x0=>.ret x0))) Tryz.func254 (by kernel_rfl) (by kernel_rfl) (by kernel_rfl)
def wL (n:Int):Option (Int×Int):=
 some (IntKind.wrap .u32 (bn .u64 n 32),IntKind.wrap .u32 n)
theorem FC (n:Int):∀r,wL n=some r→aj Tryz.prog 253 0 [NI .u64 n] [] (.tup [NI .u32 r.1,NI .u32 r.2]) []:=
 ak (enc:=fun r=>.tup [NI .u32 r.1,NI .u32 r.2]) (aP:=fun r=>[]) 10 (.op 10004 .wr (.op 10008 .wr (.ret (IntKind.wrap .u32 (bn .u64 n 32),IntKind.wrap .u32 n)))) Tryz.func253 (by kernel_rfl) (by kernel_rfl) (by kernel_rfl)
def Jg (a:Int) (b:Int) (c:Int) (d:Int):Option (Int×Int):=
 bif inK .u64 a then
 bif inK .u64 b then
 (mV [c,d]).bind fun x0=>
 (wL (IntKind.wrap .u64 ((IntKind.wrap .u64 (a*b))+x0))).bind fun x1=>
 some (x1.1,x1.2)
 else none
 else none
theorem Rw (a:Int) (b:Int) (c:Int) (d:Int):∀r,Jg a b c d=some r→aj Tryz.prog 243 0 [NI .u32 a,NI .u32 b,NI .u32 c,NI .u32 d] [] (.tup [NI .u32 r.1,NI .u32 r.2]) []:=
 ak (enc:=fun r=>.tup [NI .u32 r.1,NI .u32 r.2]) (aP:=fun r=>[]) 10 (.call [] [] (BA [c,d]) (.yes fun _=>⟨rfl,trivial⟩) fun x0=>.call [] [] (FC (IntKind.wrap .u64 ((IntKind.wrap .u64 (a*b))+x0))) .no fun x1=>.ret (x1.1,x1.2)) Tryz.func243 (by kernel_rfl) (by kernel_rfl) (by kernel_rfl)
def zT (bW:Nat) (a:List Int) (w:Int) (c1:Int) (i:Nat) (out:List Int):St:=⟨37,1,[(0,.msl 0 0 none (some bW)),(1,SL (cI .u32) a),(2,NI .u32 w),(3,NI .u32 c1),(10,SL (cI .u32) a),(11,I ((a.length:Nat):Int)),(12,I ((i:Nat):Int))],[(0,ROW 1 (cI .u32) out 0)]⟩
def zU (bW:Nat) (a:List Int) (w:Int) (c1:Int) (out:List Int):St:=⟨37,1,[(0,.msl 0 0 none (some bW)),(1,SL (cI .u32) a),(3,NI .u32 c1)],[(0,ROW 1 (cI .u32) out 0)]⟩
def sW (bW:Nat) (a:List Int) (w:Int) (c1:Int) (i:Nat) (out:List Int):Option ((Int×Nat×List Int)⊕(Int×List Int)):=
 bif decide (((i:Nat):Int)<((a.length:Nat):Int)) then
 bif decide (i<a.length) then
 bif decide (i<out.length) then
 bif decide (i<out.length) then
 (Jg (nth a i) w (nth out i) c1).bind fun x0=>
 bif decide (i<out.length) then
 bif decide (i<out.length) then
 bif inK .i64 (((i:Nat):Int)+1) then
 some (.inl (x0.1,i+1,out.set i x0.2))
 else none
 else none
 else none
 else none
 else none
 else none
 else
 some (.inr (c1,out))
theorem SC (bW:Nat) (a:List Int) (w:Int):∀σ:Int×Nat×List Int,aJ Tryz.prog (nav [0,1,0,0] (ah Tryz.f195)) (fun (σ:Int×Nat×List Int)=>zT bW a w σ.1 σ.2.1 σ.2.2) (fun (_:Int×List Int)=>(.exit 0)) (fun (y:Int×List Int)=>zU bW a w y.1 y.2) σ (sW bW a w σ.1 σ.2.1 σ.2.2)
 | (c1,i,out)=>aB 1010 (.br 100000013 (.op 20002 (.el (cI .u32) a (.up i)) (.op 30012 (.el (cI .u32) out (.up i)) (.op 30014 (.ld (cI .u32) out) (.call [] [] (Rw (nth a i) w (nth out i) c1) .no fun x0=>.op 30028 (.el (cI .u32) out (.up i)) (.op 30030 (.st (cI .u32) out x0.2) (.ps 1000003 [.k [0,1,2,3,10,11,12] [0]] (.ret (.inl (x0.1,i+1,out.set i x0.2))))))))) (.ps 1000003 [.k [0,1,3] [0]] (.ret (.inr (c1,out))))) (by kernel_rfl)
def Ij (bW:Nat) (a:List Int) (w:Int) (c1:Int) (i:Nat) (out:List Int):Option (Int×List Int):=aK (fun (σ:Int×Nat×List Int)=>sW bW a w σ.1 σ.2.1 σ.2.2) FU (c1,i,out)
theorem TS (bW:Nat) (a:List Int) (w:Int) (c1:Int) (i:Nat) (out:List Int):∀y:Int×List Int,Ij bW a w c1 i out=some y→Runs Tryz.prog (.loop (nav [0,1,0,0] (ah Tryz.f195))) (zT bW a w c1 i out) ((.exit 0)) ((fun (y:Int×List Int)=>zU bW a w y.1 y.2) y):=
 aU (head:=fun (σ:Int×Nat×List Int)=>zT bW a w σ.1 σ.2.1 σ.2.2) (eo:=fun (_:Int×List Int)=>(.exit 0)) (so:=fun (y:Int×List Int)=>zU bW a w y.1 y.2) (SC bW a w) (fun _ h=>by cases h) FU (c1,i,out)
def Ip (o0:List Int) (bW:Nat) (a:List Int) (w:Int) (c:Int):Option (List Int):=
 (Ij bW a w c 0 o0).bind fun x0=>
 bif decide (a.length<x0.2.length) then
 bif decide (a.length<x0.2.length) then
 some (x0.2.set a.length x0.1)
 else none
 else none
theorem WU (o0:List Int) (bW:Nat) (a:List Int) (w:Int) (c:Int):∀r,Ip o0 bW a w c=some r→aj Tryz.prog 195 1 [.msl 0 0 none (some bW),SL (cI .u32) a,NI .u32 w,NI .u32 c] [(0,ROW 1 (cI .u32) o0 0)] (.tup []) [(0,ROW 1 (cI .u32) r 0)]:=
 ak (enc:=fun r=>.tup []) (aP:=fun r=>[(0,ROW 1 (cI .u32) r 0)]) 10 (.op 2 (.ln (cI .u32) a) (.ps 1000001 [.k [0,1,2,3,10,11,12] [0]] (.lp1 0 (TS bW a w c 0 o0) fun x0=>.op 50004 (.ln (cI .u32) a) (.op 50008 (.el (cI .u32) x0.2 (.up a.length)) (.op 50010 (.st (cI .u32) x0.2 x0.1) (.ret (x0.2.set a.length x0.1))))))) Tryz.func195 (by kernel_rfl) (by kernel_rfl) (by kernel_rfl)
def Gz (a:List Int) (w:Int) (c:Int):Option (List Int):=
 bif inK .i64 (((a.length:Nat):Int)+1) then
 bif decide (a.length+1≤2147483648) then
 (Ip (List.replicate (a.length+1) 0) (a.length+1) a w c).bind fun x0=>
 (iF x0).bind fun x1=>
 some x1
 else none
 else none
theorem Ox (a:List Int) (w:Int) (c:Int):∀r,Gz a w c=some r→aj Tryz.prog 269 0 [SL (cI .u32) a,NI .u32 w,NI .u32 c] [] (SL (cI .u32) r) []:=
 ak (enc:=fun r=>SL (cI .u32) r) (aP:=fun r=>[]) 10 (.op 10002 (.ln (cI .u32) a) (.op 10006 (.mk (cI .u32) 0 (.up (a.length+1))) (.call [10] [] (WU (List.replicate (a.length+1) 0) (a.length+1) a w c) .no fun x0=>.call [] [] (iC x0) .no fun x1=>.ret x1))) Tryz.func269 (by kernel_rfl) (by kernel_rfl) (by kernel_rfl)
def yX (a:List Int) (n:Int):Option (List Int):=
 bif decide (0≤mxI 0 (mnI n 100000)) then
 bif decide (0<32) then
 bif decide (mxI 0 (mnI n 100000)≤Go.Ab.hi .i64) then
 bif decide (0≤(mxI 0 (mnI n 100000))/32) then
 bif decide (((mxI 0 (mnI n 100000))/32).toNat≤2147483648) then
 bif decide (0≤mxI 0 (mnI n 100000)) then
 bif decide (0<32) then
 bif decide (0≤(mxI 0 (mnI n 100000))%32) then
 (Gz a (Gq .u32 1 ((mxI 0 (mnI n 100000))%32)) 0).bind fun x0=>
 bif decide ((List.replicate (((mxI 0 (mnI n 100000))/32).toNat) 0:List Int).length+x0.length≤2147483648) then
 (iF ((List.replicate (((mxI 0 (mnI n 100000))/32).toNat) 0)++x0)).bind fun x1=>
 some x1
 else none
 else none
 else none
 else none
 else none
 else none
 else none
 else none
 else none
theorem Jj (a:List Int) (n:Int):∀r,yX a n=some r→aj Tryz.prog 257 0 [SL (cI .u32) a,I n] [] (SL (cI .u32) r) []:=
 ak (enc:=fun r=>SL (cI .u32) r) (aP:=fun r=>[]) 10 (.op 20004 (.mk (cI .u32) 0 .dn) (.call [] [] (Ox a (Gq .u32 1 ((mxI 0 (mnI n 100000))%32)) 0) .no fun x0=>.op 30012 (.ap (cI .u32) (List.replicate (((mxI 0 (mnI n 100000))/32).toNat) 0) x0 1 fun _=>⟨rfl,rfl⟩) (.call [] [] (iC ((List.replicate (((mxI 0 (mnI n 100000))/32).toNat) 0)++x0)) .no fun x1=>.ret x1))) Tryz.func257 (by kernel_rfl) (by kernel_rfl) (by kernel_rfl)
def vJ (hi:Int) (lo:Int) (d:Int):Option (Int×Int×Bool):=
 bif decide (hi≥d) then
 some (0,0,false)
 else
 bif inK .u64 hi then
 bif inK .u64 lo then
 bif inK .u64 d then
 bif decide (0≤Uh .u64 (Gq .u64 hi 32) lo) then
 bif decide (0<d) then
 bif decide (Uh .u64 (Gq .u64 hi 32) lo≤Go.Ab.hi .u64) then
 bif inK .u64 d then
 bif decide (0≤Uh .u64 (Gq .u64 hi 32) lo) then
 bif decide (0<d) then
 some (IntKind.wrap .u32 ((Uh .u64 (Gq .u64 hi 32) lo)/d),IntKind.wrap .u32 ((Uh .u64 (Gq .u64 hi 32) lo)%d),true)
 else none
 else none
 else none
 else none
 else none
 else none
 else none
 else none
 else none
theorem JE (hi:Int) (lo:Int) (d:Int):∀r,vJ hi lo d=some r→aj Tryz.prog 271 0 [NI .u32 hi,NI .u32 lo,NI .u32 d] [] (.tup [NI .u32 r.1,NI .u32 r.2.1,B r.2.2]) []:=
 ak (enc:=fun r=>.tup [NI .u32 r.1,NI .u32 r.2.1,B r.2.2]) (aP:=fun r=>[]) 10 (.br 100000012 (.ret (0,0,false)) (.op 40008 .wr (.op 40018 .wr (.ret (IntKind.wrap .u32 ((Uh .u64 (Gq .u64 hi 32) lo)/d),IntKind.wrap .u32 ((Uh .u64 (Gq .u64 hi 32) lo)%d),true))))) Tryz.func271 (by kernel_rfl) (by kernel_rfl) (by kernel_rfl)
def pJ (rest:List Int) (b:List Int):Option Int:=
 bif decide (((rest.length:Nat):Int)<((b.length:Nat):Int)) then
 some 0
 else
 bif decide (((rest.length:Nat):Int)>((b.length:Nat):Int)) then
 bif decide (b.length<rest.length) then
 bif inK .i64 (((b.length:Nat):Int)-1) then
 bif decide (0≤((b.length:Nat):Int)-1) then
 bif decide ((((b.length:Nat):Int)-1).toNat<rest.length) then
 bif inK .i64 (((b.length:Nat):Int)-1) then
 bif decide (0≤((b.length:Nat):Int)-1) then
 bif decide ((((b.length:Nat):Int)-1).toNat<b.length) then
 (vJ (nth rest b.length) (nth rest ((((b.length:Nat):Int)-1).toNat)) (nth b ((((b.length:Nat):Int)-1).toNat))).bind fun x0=>
 bif !x0.2.2 then
 some 4294967295
 else
 some x0.1
 else none
 else none
 else none
 else none
 else none
 else none
 else none
 else
 bif inK .i64 (((b.length:Nat):Int)-1) then
 bif decide (0≤((b.length:Nat):Int)-1) then
 bif decide ((((b.length:Nat):Int)-1).toNat<rest.length) then
 bif inK .i64 (((b.length:Nat):Int)-1) then
 bif decide (0≤((b.length:Nat):Int)-1) then
 bif decide ((((b.length:Nat):Int)-1).toNat<b.length) then
 (vJ 0 (nth rest ((((b.length:Nat):Int)-1).toNat)) (nth b ((((b.length:Nat):Int)-1).toNat))).bind fun x0=>
 bif !x0.2.2 then
 some 4294967295
 else
 some x0.1
 else none
 else none
 else none
 else none
 else none
 else none
theorem Wu (rest:List Int) (b:List Int):∀r,pJ rest b=some r→aj Tryz.prog 270 0 [SL (cI .u32) rest,SL (cI .u32) b] [] (NI .u32 r) []:=
 ak (enc:=fun r=>NI .u32 r) (aP:=fun r=>[]) 10 (.op 10002 (.ln (cI .u32) b) (.op 20002 (.ln (cI .u32) rest) (.br 100000015 (.ret 0) (.op 50002 (.ln (cI .u32) rest) (.br 100000019 (.op 60004 (.el (cI .u32) rest (.up b.length)) (.op 70008 (.el (cI .u32) rest .dn) (.op 70018 (.el (cI .u32) b .dn) (.call [] [] (JE (nth rest b.length) (nth rest ((((b.length:Nat):Int)-1).toNat)) (nth b ((((b.length:Nat):Int)-1).toNat))) .no fun x0=>.br 100000041 (.ret 4294967295) (.ret x0.1))))) (.op 70008 (.el (cI .u32) rest .dn) (.op 70018 (.el (cI .u32) b .dn) (.call [] [] (JE 0 (nth rest ((((b.length:Nat):Int)-1).toNat)) (nth b ((((b.length:Nat):Int)-1).toNat))) .no fun x0=>.br 100000041 (.ret 4294967295) (.ret x0.1))))))))) Tryz.func270 (by kernel_rfl) (by kernel_rfl) (by kernel_rfl)
def qH (x:Int):Option Bool:=
 some (x != x)
theorem AZ (x:Int):∀r,qH x=some r→aj Tryz.prog 272 0 [NI .u32 x] [] (B r) []:=
 ak (enc:=fun r=>B r) (aP:=fun r=>[]) 10 (.ret (x != x)) Tryz.func272 (by kernel_rfl) (by kernel_rfl) (by kernel_rfl)
def nT (x:Int) (y:Int):Option Int:=
 (qH x).bind fun x0=>
 (qH y).bind fun x1=>
 bif x0 then
 bif x1 then
 some 0
 else
 some (-1)
 else
 bif x1 then
 some 1
 else
 bif decide (x<y) then
 some (-1)
 else
 bif decide (x>y) then
 some 1
 else
 some 0
theorem I8 (x:Int) (y:Int):∀r,nT x y=some r→aj Tryz.prog 260 0 [NI .u32 x,NI .u32 y] [] (I r) []:=
 ak (enc:=fun r=>I r) (aP:=fun r=>[]) 10 (.call [] [] (AZ x) .no fun x0=>.call [] [] (AZ y) .no fun x1=>.br 100000011 (.br 100000012 (.ret 0) (.ret (-1))) (.br 100000013 (.ret 1) (.br 100000016 (.ret (-1)) (.br 100000019 (.ret 1) (.ret 0))))) Tryz.func260 (by kernel_rfl) (by kernel_rfl) (by kernel_rfl)
def Ir (a:List Int) (b:List Int) (x0:Int) (i:Nat):St:=⟨41,0,[(0,SL (cI .u32) a),(1,SL (cI .u32) b),(5,I x0),(18,I x0),(19,I ((i:Nat):Int))],[]⟩
def Hy (a:List Int) (b:List Int) (x0:Int) (i:Int):St:=⟨41,0,[(4,I i)],[]⟩
def H8 (a:List Int) (b:List Int) (x0:Int):St:=⟨41,0,[],[]⟩
def jD (a:List Int) (b:List Int) (x0:Int) (i:Nat):Option (Nat⊕(Int⊕Unit)):=
 bif decide (((i:Nat):Int)<x0) then
 bif inK .i64 (x0-1) then
 bif inK .i64 ((x0-1)-((i:Nat):Int)) then
 bif decide (0≤(x0-1)-((i:Nat):Int)) then
 bif decide (((x0-1)-((i:Nat):Int)).toNat<a.length) then
 bif inK .i64 (x0-1) then
 bif inK .i64 ((x0-1)-((i:Nat):Int)) then
 bif decide (0≤(x0-1)-((i:Nat):Int)) then
 bif decide (((x0-1)-((i:Nat):Int)).toNat<b.length) then
 (nT (nth a (((x0-1)-((i:Nat):Int)).toNat)) (nth b (((x0-1)-((i:Nat):Int)).toNat))).bind fun x3=>
 bif x3 != 0 then
 some (.inr (.inl x3))
 else
 bif inK .i64 (((i:Nat):Int)+1) then
 some (.inl (i+1))
 else none
 else none
 else none
 else none
 else none
 else none
 else none
 else none
 else none
 else
 some (.inr (.inr ()))
theorem Zj (a:List Int) (b:List Int) (x0:Int):∀σ:Nat,aJ Tryz.prog (nav [1,1,1,0,1,0,0] (ah Tryz.f222)) (fun (σ:Nat)=>Ir a b x0 σ) (fun (y:Int⊕Unit)=>aN y (fun _=>.ret) (fun _=>(.exit 0))) (fun (y:Int⊕Unit)=>aN y (fun y=>Hy a b x0 y) (fun y=>H8 a b x0)) σ (jD a b x0 σ)
 | i=>aB 1010 (.br 100000020 (.op 80010 (.el (cI .u32) a .dn) (.op 80024 (.el (cI .u32) b .dn) (.call [] [] (I8 (nth a (((x0-1)-((i:Nat):Int)).toNat)) (nth b (((x0-1)-((i:Nat):Int)).toNat))) .no fun x3=>.br 100000038 (.ps 1000003 [.k [4] []] (.ret (.inr (.inl x3)))) (.ps 1000003 [.k [0,1,5,18,19] []] (.ret (.inl (i+1))))))) (.ps 1000003 [.k [] []] (.ret (.inr (.inr ()))))) (by kernel_rfl)
def La (a:List Int) (b:List Int) (x0:Int) (i:Nat):Option (Int⊕Unit):=aK (fun (σ:Nat)=>jD a b x0 σ) FU i
theorem Yx (a:List Int) (b:List Int) (x0:Int) (i:Nat):∀y:Int⊕Unit,La a b x0 i=some y→Runs Tryz.prog (.loop (nav [1,1,1,0,1,0,0] (ah Tryz.f222))) (Ir a b x0 i) (aN y (fun _=>.ret) (fun _=>(.exit 0))) ((fun (y:Int⊕Unit)=>aN y (fun y=>Hy a b x0 y) (fun y=>H8 a b x0)) y):=
 aU (head:=fun (σ:Nat)=>Ir a b x0 σ) (eo:=fun (y:Int⊕Unit)=>aN y (fun _=>.ret) (fun _=>(.exit 0))) (so:=fun (y:Int⊕Unit)=>aN y (fun y=>Hy a b x0 y) (fun y=>H8 a b x0)) (Zj a b x0) (fun y h=>by rcases y with y | y<;>cases h) FU i
def OO (a:List Int) (b:List Int):Option Int:=
 (sG a).bind fun x0=>
 (sG b).bind fun x1=>
 (cmp_Compare_int x0 x1).bind fun x2=>
 bif x2 != 0 then
 some x2
 else
 (La a b x0 0).bind fun y_=>aN y_ (fun x3=>
 some x3)
 (fun x4=>
 some 0)
theorem U1 (a:List Int) (b:List Int):∀r,OO a b=some r→aj Tryz.prog 222 0 [SL (cI .u32) a,SL (cI .u32) b] [] (I r) []:=
 ak (enc:=fun r=>I r) (aP:=fun r=>[]) 10 (.call [] [] (o8 a) .no fun x0=>.call [] [] (o8 b) .no fun x1=>.call [] [] (gU x0 x1) .no fun x2=>.br 100000016 (.ret x2) (.ps 1000001 [.k [0,1,5,18,19] []] (.lp2 0 (Yx a b x0 0) (fun x3=>.ret x3) (fun x4=>.ret 0)))) Tryz.func222 (by kernel_rfl) (by kernel_rfl) (by kernel_rfl)
def ND (a:List Int) (i:Int):Option Int:=
 bif decide (i<((a.length:Nat):Int)) then
 bif decide (0≤i) then
 bif decide (i.toNat<a.length) then
 some (nth a i.toNat)
 else none
 else none
 else
 some 0
theorem QE (a:List Int) (i:Int):∀r,ND a i=some r→aj Tryz.prog 217 0 [SL (cI .u32) a,I i] [] (NI .u32 r) []:=
 ak (enc:=fun r=>NI .u32 r) (aP:=fun r=>[]) 10 (.op 10004 (.ln (cI .u32) a) (.br 100000008 (.op 20004 (.el (cI .u32) a .dn) (.ret (nth a i.toNat))) (.ret 0))) Tryz.func217 (by kernel_rfl) (by kernel_rfl) (by kernel_rfl)
def O4 (a:Int) (b:Int) (c:Int):Option (Int×Int):=
 (mV [b,c]).bind fun x0=>
 bif inK .u64 a then
 (mV [IntKind.wrap .u32 (IntKind.wrap .u64 (a-x0))]).bind fun x1=>
 (wL (IntKind.wrap .u64 (x1+x0))).bind fun x2=>
 some (IntKind.wrap .u32 (IntKind.wrap .u64 (a-x0)),x2.1)
 else none
theorem ZI (a:Int) (b:Int) (c:Int):∀r,O4 a b c=some r→aj Tryz.prog 264 0 [NI .u32 a,NI .u32 b,NI .u32 c] [] (.tup [NI .u32 r.1,NI .u32 r.2]) []:=
 ak (enc:=fun r=>.tup [NI .u32 r.1,NI .u32 r.2]) (aP:=fun r=>[]) 10 (.call [] [] (BA [b,c]) (.yes fun _=>⟨rfl,trivial⟩) fun x0=>.op 20008 .wr (.call [] [] (BA [IntKind.wrap .u32 (IntKind.wrap .u64 (a-x0))]) (.yes fun _=>⟨rfl,trivial⟩) fun x1=>.call [] [] (FC (IntKind.wrap .u64 (x1+x0))) .no fun x2=>.ret (IntKind.wrap .u32 (IntKind.wrap .u64 (a-x0)),x2.1))) Tryz.func264 (by kernel_rfl) (by kernel_rfl) (by kernel_rfl)
def G6 (a:List Int) (b:List Int) (x1:Int) (borrow:Int) (i:Nat) (out:List Int):St:=⟨40,0,[(0,SL (cI .u32) a),(1,SL (cI .u32) b),(7,.msl 10 0 none (some x1.toNat)),(8,NI .u32 borrow),(18,I x1),(19,I ((i:Nat):Int))],[(10,ROW 1 (cI .u32) out 0)]⟩
def GY (a:List Int) (b:List Int) (x1:Int) (out:List Int):St:=⟨40,0,[(7,.msl 10 0 none (some x1.toNat))],[(10,ROW 1 (cI .u32) out 0)]⟩
def vK (a:List Int) (b:List Int) (x1:Int) (borrow:Int) (i:Nat) (out:List Int):Option ((Int×Nat×List Int)⊕(List Int)):=
 bif decide (((i:Nat):Int)<x1) then
 bif decide (i<a.length) then
 (ND b ((i:Nat):Int)).bind fun x2=>
 (O4 (nth a i) x2 borrow).bind fun x3=>
 bif decide (i<out.length) then
 bif decide (i<out.length) then
 bif inK .i64 (((i:Nat):Int)+1) then
 some (.inl (x3.2,i+1,out.set i x3.1))
 else none
 else none
 else none
 else none
 else
 some (.inr out)
theorem Yw (a:List Int) (b:List Int) (x1:Int):∀σ:Int×Nat×List Int,aJ Tryz.prog (nav [1,1,1,1,1,0,1,0,0] (ah Tryz.f242)) (fun (σ:Int×Nat×List Int)=>G6 a b x1 σ.1 σ.2.1 σ.2.2) (fun (_:List Int)=>(.exit 0)) (fun (y:List Int)=>GY a b x1 y) σ (vK a b x1 σ.1 σ.2.1 σ.2.2)
 | (borrow,i,out)=>aB 1010 (.br 100000020 (.op 90008 (.el (cI .u32) a (.up i)) (.call [] [] (QE b ((i:Nat):Int)) .no fun x2=>.call [] [] (ZI (nth a i) x2 borrow) .no fun x3=>.op 90028 (.el (cI .u32) out (.up i)) (.op 90030 (.st (cI .u32) out x3.1) (.ps 1000003 [.k [0,1,7,8,18,19] [10]] (.ret (.inl (x3.2,i+1,out.set i x3.1))))))) (.ps 1000003 [.k [7] [10]] (.ret (.inr out)))) (by kernel_rfl)
def Lh (a:List Int) (b:List Int) (x1:Int) (borrow:Int) (i:Nat) (out:List Int):Option (List Int):=aK (fun (σ:Int×Nat×List Int)=>vK a b x1 σ.1 σ.2.1 σ.2.2) FU (borrow,i,out)
theorem Zh (a:List Int) (b:List Int) (x1:Int) (borrow:Int) (i:Nat) (out:List Int):∀y:List Int,Lh a b x1 borrow i out=some y→Runs Tryz.prog (.loop (nav [1,1,1,1,1,0,1,0,0] (ah Tryz.f242))) (G6 a b x1 borrow i out) ((.exit 0)) ((fun (y:List Int)=>GY a b x1 y) y):=
 aU (head:=fun (σ:Int×Nat×List Int)=>G6 a b x1 σ.1 σ.2.1 σ.2.2) (eo:=fun (_:List Int)=>(.exit 0)) (so:=fun (y:List Int)=>GY a b x1 y) (Yw a b x1) (fun _ h=>by cases h) FU (borrow,i,out)
def LP (a:List Int) (b:List Int):Option (List Int×Bool):=
 (OO a b).bind fun x0=>
 bif decide (x0<0) then
 some ([],false)
 else
 (sG a).bind fun x1=>
 bif decide (0≤x1) then
 bif decide (x1.toNat≤2147483648) then
 (Lh a b x1 0 0 (List.replicate x1.toNat 0)).bind fun x2=>
 (iF x2).bind fun x3=>
 some (x3,true)
 else none
 else none
theorem Nz (a:List Int) (b:List Int):∀r,LP a b=some r→aj Tryz.prog 242 0 [SL (cI .u32) a,SL (cI .u32) b] [] (.tup [SL (cI .u32) r.1,B r.2]) []:=
 ak (enc:=fun r=>.tup [SL (cI .u32) r.1,B r.2]) (aP:=fun r=>[]) 10 (.call [] [] (U1 a b) .no fun x0=>.br 100000013 (.ps 1000003 [.n 4] (.ret ([],false))) (.call [] [] (o8 a) .no fun x1=>.op 40002 (.mk (cI .u32) 0 .dn) (.ps 1000001 [.k [0,1,7,8,18,19] [10]] (.lp1 0 (Zh a b x1 0 0 (List.replicate x1.toNat 0)) fun x2=>.call [] [] (iC x2) .no fun x3=>.ret (x3,true))))) Tryz.func242 (by kernel_rfl) (by kernel_rfl) (by kernel_rfl)
def xu (rest:List Int) (b:List Int) (q:Int):St:=⟨26,0,[(0,SL (cI .u32) rest),(1,SL (cI .u32) b),(6,NI .u32 q)],[]⟩
def xE (rest:List Int) (b:List Int) (aiL:List Int) (q:Int):St:=⟨26,0,[(0,SL (cI .u32) aiL),(6,NI .u32 q)],[]⟩
def mD (rest:List Int) (b:List Int) (q:Int):Option (Int⊕(List Int×Int)):=
 (Gz b q 0).bind fun x1=>
 (LP rest x1).bind fun x2=>
 bif x2.2 then
 some (.inr (x2.1,q))
 else
 some (.inl (IntKind.wrap .u32 (q-1)))
theorem QH (rest:List Int) (b:List Int):∀σ:Int,aJ Tryz.prog (nav [1,0,1,1,0,0,0] (ah Tryz.f258)) (fun (σ:Int)=>xu rest b σ) (fun (_:List Int×Int)=>(.exit 0)) (fun (y:List Int×Int)=>xE rest b y.1 y.2) σ (mD rest b σ)
 | q=>aB 1010 (.call [] [] (Ox b q 0) .no fun x1=>.call [] [] (Nz rest x1) .no fun x2=>.br 100000020 (.ps 1000003 [.k [0,6] []] (.ret (.inr (x2.1,q)))) (.ps 1000003 [.k [0,1,6] []] (.ret (.inl (IntKind.wrap .u32 (q-1)))))) (by kernel_rfl)
def yG (rest:List Int) (b:List Int) (q:Int):Option (List Int×Int):=aK (fun (σ:Int)=>mD rest b σ) FU q
theorem QI (rest:List Int) (b:List Int) (q:Int):∀y:List Int×Int,yG rest b q=some y→Runs Tryz.prog (.loop (nav [1,0,1,1,0,0,0] (ah Tryz.f258))) (xu rest b q) ((.exit 0)) ((fun (y:List Int×Int)=>xE rest b y.1 y.2) y):=
 aU (head:=fun (σ:Int)=>xu rest b σ) (eo:=fun (_:List Int×Int)=>(.exit 0)) (so:=fun (y:List Int×Int)=>xE rest b y.1 y.2) (QH rest b) (fun _ h=>by cases h) FU q
def yY (rest:List Int) (b:List Int):Option (Int×List Int):=
 (pJ rest b).bind fun x0=>
 (yG rest b x0).bind fun x1=>
 some (x1.2,x1.1)
theorem WO (rest:List Int) (b:List Int):∀r,yY rest b=some r→aj Tryz.prog 258 0 [SL (cI .u32) rest,SL (cI .u32) b] [] (.tup [NI .u32 r.1,SL (cI .u32) r.2]) []:=
 ak (enc:=fun r=>.tup [NI .u32 r.1,SL (cI .u32) r.2]) (aP:=fun r=>[]) 10 (.call [] [] (Wu rest b) .no fun x0=>.ps 1000001 [.k [0,1,6] []] (.lp1 0 (QI rest b x0) fun x1=>.ret (x1.2,x1.1))) Tryz.func258 (by kernel_rfl) (by kernel_rfl) (by kernel_rfl)
def DN (x1:Int) (x2:List Int) (x3:List Int) (i:List Int) (i1:Int) (o:List Int):St:=⟨74,0,[(0,SL (cI .u32) x2),(1,SL (cI .u32) x3),(4,.msl 10 0 none (some x2.length)),(5,SL (cI .u32) i),(7,I (32-x1)),(8,I i1)],[(10,ROW 1 (cI .u32) o 0)]⟩
def CP (x1:Int) (x2:List Int) (x3:List Int) (i:List Int) (o:List Int):St:=⟨74,0,[(4,.msl 10 0 none (some x2.length)),(5,SL (cI .u32) i),(7,I (32-x1))],[(10,ROW 1 (cI .u32) o 0)]⟩
def qc (x1:Int) (x2:List Int) (x3:List Int) (i:List Int) (i1:Int) (o:List Int):Option ((List Int×Int×List Int)⊕(List Int×List Int)):=
 bif decide (i1≥0) then
 bif decide (0≤i1) then
 bif decide (i1.toNat<x2.length) then
 bif decide (1+i.length≤2147483648) then
 (iF ([nth x2 i1.toNat]++i)).bind fun x4=>
 (yY x4 x3).bind fun x5=>
 bif decide (0≤i1) then
 bif decide (i1.toNat<o.length) then
 bif decide (i1.toNat<o.length) then
 bif inK .i64 (i1-1) then
 some (.inl (x5.2,i1-1,o.set i1.toNat x5.1))
 else none
 else none
 else none
 else none
 else none
 else none
 else none
 else
 some (.inr (i,o))
theorem V3 (x1:Int) (x2:List Int) (x3:List Int):∀σ:List Int×Int×List Int,aJ Tryz.prog (nav [1,1,1,1,1,1,0,1,0,0] (ah Tryz.f220)) (fun (σ:List Int×Int×List Int)=>DN x1 x2 x3 σ.1 σ.2.1 σ.2.2) (fun (_:List Int×List Int)=>(.exit 0)) (fun (y:List Int×List Int)=>CP x1 x2 x3 y.1 y.2) σ (qc x1 x2 x3 σ.1 σ.2.1 σ.2.2)
 | (i,i1,o)=>aB 1010 (.br 100000037 (.op 100008 (.el (cI .u32) x2 .dn) (.op 100016 (.ap (cI .u32) [nth x2 i1.toNat] i 1 fun _=>⟨rfl,rfl⟩) (.call [] [] (iC ([nth x2 i1.toNat]++i)) .no fun x4=>.call [] [] (WO x4 x3) .no fun x5=>.op 100030 (.el (cI .u32) o .dn) (.op 100032 (.st (cI .u32) o x5.1) (.ps 1000003 [.k [0,1,4,5,7,8] [10]] (.ret (.inl (x5.2,i1-1,o.set i1.toNat x5.1)))))))) (.ps 1000003 [.k [4,5,7] [10]] (.ret (.inr (i,o))))) (by kernel_rfl)
def zH (x1:Int) (x2:List Int) (x3:List Int) (i:List Int) (i1:Int) (o:List Int):Option (List Int×List Int):=aK (fun (σ:List Int×Int×List Int)=>qc x1 x2 x3 σ.1 σ.2.1 σ.2.2) FU (i,i1,o)
theorem VO (x1:Int) (x2:List Int) (x3:List Int) (i:List Int) (i1:Int) (o:List Int):∀y:List Int×List Int,zH x1 x2 x3 i i1 o=some y→Runs Tryz.prog (.loop (nav [1,1,1,1,1,1,0,1,0,0] (ah Tryz.f220))) (DN x1 x2 x3 i i1 o) ((.exit 0)) ((fun (y:List Int×List Int)=>CP x1 x2 x3 y.1 y.2) y):=
 aU (head:=fun (σ:List Int×Int×List Int)=>DN x1 x2 x3 σ.1 σ.2.1 σ.2.2) (eo:=fun (_:List Int×List Int)=>(.exit 0)) (so:=fun (y:List Int×List Int)=>CP x1 x2 x3 y.1 y.2) (V3 x1 x2 x3) (fun _ h=>by cases h) FU (i,i1,o)
def tq (n:Int):Option (List Int):=
 (iF [IntKind.wrap .u32 n,IntKind.wrap .u32 (bn .u64 n 32)]).bind fun x0=>
 some x0
theorem mF (n:Int):∀r,tq n=some r→aj Tryz.prog 108 0 [NI .u64 n] [] (SL (cI .u32) r) []:=
 ak (enc:=fun r=>SL (cI .u32) r) (aP:=fun r=>[]) 10 (.op 10002 .wr (.op 10008 .wr (.call [] [] (iC [IntKind.wrap .u32 n,IntKind.wrap .u32 (bn .u64 n 32)]) .no fun x0=>.ret x0))) Tryz.func108 (by kernel_rfl) (by kernel_rfl) (by kernel_rfl)
def vG (jK:Nat) (nK:Nat) (bW:Nat) (a:List Int) (w:Int) (c1:Int) (i:Nat) (out:List Int):St:=⟨37,1,[(0,.msl 0 jK (some nK) (some bW)),(1,SL (cI .u32) a),(2,NI .u32 w),(3,NI .u32 c1),(10,SL (cI .u32) a),(11,I ((a.length:Nat):Int)),(12,I ((i:Nat):Int))],[(0,ROW 1 (cI .u32) out 0)]⟩
def uY (jK:Nat) (nK:Nat) (bW:Nat) (a:List Int) (w:Int) (c1:Int) (out:List Int):St:=⟨37,1,[(0,.msl 0 jK (some nK) (some bW)),(1,SL (cI .u32) a),(3,NI .u32 c1)],[(0,ROW 1 (cI .u32) out 0)]⟩
def gV (jK:Nat) (nK:Nat) (bW:Nat) (a:List Int) (w:Int) (c1:Int) (i:Nat) (out:List Int):Option ((Int×Nat×List Int)⊕(Int×List Int)):=
 bif decide (((i:Nat):Int)<((a.length:Nat):Int)) then
 bif decide (i<a.length) then
 bif decide (i<nK) then
 bif decide (plus jK i<out.length) then
 (Jg (nth a i) w (nth out (plus jK i)) c1).bind fun x0=>
 bif decide (i<nK) then
 bif decide (plus jK i<out.length) then
 bif inK .i64 (((i:Nat):Int)+1) then
 some (.inl (x0.1,i+1,out.set (plus jK i) x0.2))
 else none
 else none
 else none
 else none
 else none
 else none
 else
 some (.inr (c1,out))
theorem O1 (jK:Nat) (nK:Nat) (bW:Nat) (a:List Int) (w:Int):∀σ:Int×Nat×List Int,aJ Tryz.prog (nav [0,1,0,0] (ah Tryz.f195)) (fun (σ:Int×Nat×List Int)=>vG jK nK bW a w σ.1 σ.2.1 σ.2.2) (fun (_:Int×List Int)=>(.exit 0)) (fun (y:Int×List Int)=>uY jK nK bW a w y.1 y.2) σ (gV jK nK bW a w σ.1 σ.2.1 σ.2.2)
 | (c1,i,out)=>aB 1010 (.br 100000013 (.op 20002 (.el (cI .u32) a (.up i)) (.op 30012 (.el (cI .u32) out (.up i)) (.op 30014 (.ld (cI .u32) out) (.call [] [] (Rw (nth a i) w (nth out (plus jK i)) c1) .no fun x0=>.op 30028 (.el (cI .u32) out (.up i)) (.op 30030 (.st (cI .u32) out x0.2) (.ps 1000003 [.k [0,1,2,3,10,11,12] [0]] (.ret (.inl (x0.1,i+1,out.set (plus jK i) x0.2))))))))) (.ps 1000003 [.k [0,1,3] [0]] (.ret (.inr (c1,out))))) (by kernel_rfl)
def DV (jK:Nat) (nK:Nat) (bW:Nat) (a:List Int) (w:Int) (c1:Int) (i:Nat) (out:List Int):Option (Int×List Int):=aK (fun (σ:Int×Nat×List Int)=>gV jK nK bW a w σ.1 σ.2.1 σ.2.2) FU (c1,i,out)
theorem Oi (jK:Nat) (nK:Nat) (bW:Nat) (a:List Int) (w:Int) (c1:Int) (i:Nat) (out:List Int):∀y:Int×List Int,DV jK nK bW a w c1 i out=some y→Runs Tryz.prog (.loop (nav [0,1,0,0] (ah Tryz.f195))) (vG jK nK bW a w c1 i out) ((.exit 0)) ((fun (y:Int×List Int)=>uY jK nK bW a w y.1 y.2) y):=
 aU (head:=fun (σ:Int×Nat×List Int)=>vG jK nK bW a w σ.1 σ.2.1 σ.2.2) (eo:=fun (_:Int×List Int)=>(.exit 0)) (so:=fun (y:Int×List Int)=>uY jK nK bW a w y.1 y.2) (O1 jK nK bW a w) (fun _ h=>by cases h) FU (c1,i,out)
def Bg (o0:List Int) (jK:Nat) (nK:Nat) (bW:Nat) (a:List Int) (w:Int) (c:Int):Option (List Int):=
 (DV jK nK bW a w c 0 o0).bind fun x0=>
 bif decide (a.length<nK) then
 bif decide (plus jK a.length<x0.2.length) then
 some (x0.2.set (plus jK a.length) x0.1)
 else none
 else none
theorem Tm (o0:List Int) (jK:Nat) (nK:Nat) (bW:Nat) (a:List Int) (w:Int) (c:Int):∀r,Bg o0 jK nK bW a w c=some r→aj Tryz.prog 195 1 [.msl 0 jK (some nK) (some bW),SL (cI .u32) a,NI .u32 w,NI .u32 c] [(0,ROW 1 (cI .u32) o0 0)] (.tup []) [(0,ROW 1 (cI .u32) r 0)]:=
 ak (enc:=fun r=>.tup []) (aP:=fun r=>[(0,ROW 1 (cI .u32) r 0)]) 10 (.op 2 (.ln (cI .u32) a) (.ps 1000001 [.k [0,1,2,3,10,11,12] [0]] (.lp1 0 (Oi jK nK bW a w c 0 o0) fun x0=>.op 50004 (.ln (cI .u32) a) (.op 50008 (.el (cI .u32) x0.2 (.up a.length)) (.op 50010 (.st (cI .u32) x0.2 x0.1) (.ret (x0.2.set (plus jK a.length) x0.1))))))) Tryz.func195 (by kernel_rfl) (by kernel_rfl) (by kernel_rfl)
def DF (a:List Int) (b:List Int) (i:Nat) (out:List Int):St:=⟨39,0,[(0,SL (cI .u32) a),(5,.msl 10 0 none (some ((a.length+b.length)+1))),(16,SL (cI .u32) b),(17,I ((b.length:Nat):Int)),(18,I ((i:Nat):Int))],[(10,ROW 1 (cI .u32) out 0)]⟩
def D6 (a:List Int) (b:List Int) (out:List Int):St:=⟨39,0,[(5,.msl 10 0 none (some ((a.length+b.length)+1)))],[(10,ROW 1 (cI .u32) out 0)]⟩
def pV (a:List Int) (b:List Int) (i:Nat) (out:List Int):Option ((Nat×List Int)⊕(List Int)):=
 bif decide (((i:Nat):Int)<((b.length:Nat):Int)) then
 bif decide (i<b.length) then
 bif inK .i64 (((i:Nat):Int)+((a.length:Nat):Int)) then
 bif inK .i64 ((((i:Nat):Int)+((a.length:Nat):Int))+1) then
 bif decide (i≤(i+a.length)+1) then
 bif decide (0+((i+a.length)+1)≤(out.map (cI .u32)).length) then
 bif decide ((i+a.length)+1≤(a.length+b.length)+1) then
 bif (decide ((i+a.length)+1≤(i+a.length)+1)&&decide ((i+a.length)+1≤(a.length+b.length)+1)) then
 (Bg out i (((i+a.length)+1)-i) (((i+a.length)+1)-i) a (nth b i) 0).bind fun x0=>
 bif inK .i64 (((i:Nat):Int)+1) then
 some (.inl (i+1,x0))
 else none
 else none
 else none
 else none
 else none
 else none
 else none
 else none
 else
 some (.inr out)
theorem UG (a:List Int) (b:List Int):∀σ:Nat×List Int,aJ Tryz.prog (nav [1,1,0,1,0,0] (ah Tryz.f144)) (fun (σ:Nat×List Int)=>DF a b σ.1 σ.2) (fun (_:List Int)=>(.exit 0)) (fun (y:List Int)=>D6 a b y) σ (pV a b σ.1 σ.2)
 | (i,out)=>aB 1010 (.br 100000019 (.op 40002 (.el (cI .u32) b (.up i)) (.op 50004 (.ln (cI .u32) a) (.op 60008 (.sb (.up i) (.up ((i+a.length)+1)) (.up ((i+a.length)+1))) (.call [10] [] (Tm out i (((i+a.length)+1)-i) (((i+a.length)+1)-i) a (nth b i) 0) .no fun x0=>.ps 1000003 [.k [0,5,16,17,18] [10]] (.ret (.inl (i+1,x0))))))) (.ps 1000003 [.k [5] [10]] (.ret (.inr out)))) (by kernel_rfl)
def EW (a:List Int) (b:List Int) (i:Nat) (out:List Int):Option (List Int):=aK (fun (σ:Nat×List Int)=>pV a b σ.1 σ.2) FU (i,out)
theorem U5 (a:List Int) (b:List Int) (i:Nat) (out:List Int):∀y:List Int,EW a b i out=some y→Runs Tryz.prog (.loop (nav [1,1,0,1,0,0] (ah Tryz.f144))) (DF a b i out) ((.exit 0)) ((fun (y:List Int)=>D6 a b y) y):=
 aU (head:=fun (σ:Nat×List Int)=>DF a b σ.1 σ.2) (eo:=fun (_:List Int)=>(.exit 0)) (so:=fun (y:List Int)=>D6 a b y) (UG a b) (fun _ h=>by cases h) FU (i,out)
def oD (a:List Int) (b:List Int):Option (List Int):=
 bif inK .i64 (((a.length:Nat):Int)+((b.length:Nat):Int)) then
 bif inK .i64 ((((a.length:Nat):Int)+((b.length:Nat):Int))+1) then
 bif decide ((a.length+b.length)+1≤2147483648) then
 (EW a b 0 (List.replicate ((a.length+b.length)+1) 0)).bind fun x0=>
 (iF x0).bind fun x1=>
 some x1
 else none
 else none
 else none
theorem qZ (a:List Int) (b:List Int):∀r,oD a b=some r→aj Tryz.prog 144 0 [SL (cI .u32) a,SL (cI .u32) b] [] (SL (cI .u32) r) []:=
 ak (enc:=fun r=>SL (cI .u32) r) (aP:=fun r=>[]) 10 (.op 10002 (.ln (cI .u32) a) (.op 10006 (.ln (cI .u32) b) (.op 10012 (.mk (cI .u32) 0 (.up ((a.length+b.length)+1))) (.op 20002 (.ln (cI .u32) b) (.ps 1000001 [.k [0,5,16,17,18] [10]] (.lp1 0 (U5 a b 0 (List.replicate ((a.length+b.length)+1) 0)) fun x0=>.call [] [] (iC x0) .no fun x1=>.ret x1)))))) Tryz.func144 (by kernel_rfl) (by kernel_rfl) (by kernel_rfl)
def DW (a:List Int) (n:Int) (x0:Int) (out:List Int) (i:Nat):St:=⟨40,0,[(0,SL (cI .u32) a),(6,I x0),(8,SL (cI .u32) out),(30,I (mnI n 1)),(31,I ((i:Nat):Int))],[]⟩
def Ec (a:List Int) (n:Int) (x0:Int) (out:List Int):St:=⟨40,0,[(8,SL (cI .u32) out)],[]⟩
def kF (a:List Int) (n:Int) (x0:Int) (out:List Int) (i:Nat):Option ((List Int×Nat)⊕(List Int)):=
 bif decide (((i:Nat):Int)<(mnI n 1)) then
 bif decide (0≤x0) then
 bif decide (0≤x0.toNat) then
 bif decide (x0.toNat≤a.length) then
 (oD out (a.take x0.toNat)).bind fun x3=>
 bif inK .i64 (((i:Nat):Int)+1) then
 some (.inl (x3,i+1))
 else none
 else none
 else none
 else none
 else
 some (.inr out)
theorem Vk (a:List Int) (n:Int) (x0:Int):∀σ:List Int×Nat,aJ Tryz.prog (nav [1,1,1,1,1,1,0,1,0,0] (ah Tryz.f241)) (fun (σ:List Int×Nat)=>DW a n x0 σ.1 σ.2) (fun (_:List Int)=>(.exit 0)) (fun (y:List Int)=>Ec a n x0 y) σ (kF a n x0 σ.1 σ.2)
 | (out,i)=>aB 1010 (.br 100000032 (.op 100006 (.sl (cI .u32) a 1 (fun _=>rfl) (.up 0) .dn) (.call [] [] (qZ out (a.take x0.toNat)) .no fun x3=>.ps 1000003 [.k [0,6,8,30,31] []] (.ret (.inl (x3,i+1))))) (.ps 1000003 [.k [8] []] (.ret (.inr out)))) (by kernel_rfl)
def zf (a:List Int) (n:Int) (x0:Int) (out:List Int) (i:Nat):Option (List Int):=aK (fun (σ:List Int×Nat)=>kF a n x0 σ.1 σ.2) FU (out,i)
theorem Ku (a:List Int) (n:Int) (x0:Int) (out:List Int) (i:Nat):∀y:List Int,zf a n x0 out i=some y→Runs Tryz.prog (.loop (nav [1,1,1,1,1,1,0,1,0,0] (ah Tryz.f241))) (DW a n x0 out i) ((.exit 0)) ((fun (y:List Int)=>Ec a n x0 y) y):=
 aU (head:=fun (σ:List Int×Nat)=>DW a n x0 σ.1 σ.2) (eo:=fun (_:List Int)=>(.exit 0)) (so:=fun (y:List Int)=>Ec a n x0 y) (Vk a n x0) (fun _ h=>by cases h) FU (out,i)
def wM (a:List Int) (n:Int) (x0:Int) (out:List Int) (i:Nat):St:=⟨40,0,[(0,SL (cI .u32) a),(6,I x0),(8,SL (cI .u32) out),(30,I n),(31,I ((i:Nat):Int))],[]⟩
def xk (a:List Int) (n:Int) (x0:Int) (out:List Int):St:=⟨40,0,[(8,SL (cI .u32) out)],[]⟩
def mg (a:List Int) (n:Int) (x0:Int) (out:List Int) (i:Nat):Option ((List Int×Nat)⊕(List Int)):=
 bif decide (((i:Nat):Int)<n) then
 bif decide (0≤x0) then
 bif decide (0≤x0.toNat) then
 bif decide (x0.toNat≤a.length) then
 (oD out (a.take x0.toNat)).bind fun x3=>
 bif inK .i64 (((i:Nat):Int)+1) then
 some (.inl (x3,i+1))
 else none
 else none
 else none
 else none
 else
 some (.inr out)
theorem Qr (a:List Int) (n:Int) (x0:Int):∀σ:List Int×Nat,aJ Tryz.prog (nav [1,1,1,1,1,1,0,1,0,0] (ah Tryz.f241)) (fun (σ:List Int×Nat)=>wM a n x0 σ.1 σ.2) (fun (_:List Int)=>(.exit 0)) (fun (y:List Int)=>xk a n x0 y) σ (mg a n x0 σ.1 σ.2)
 | (out,i)=>aB 1010 (.br 100000032 (.op 100006 (.sl (cI .u32) a 1 (fun _=>rfl) (.up 0) .dn) (.call [] [] (qZ out (a.take x0.toNat)) .no fun x3=>.ps 1000003 [.k [0,6,8,30,31] []] (.ret (.inl (x3,i+1))))) (.ps 1000003 [.k [8] []] (.ret (.inr out)))) (by kernel_rfl)
def sQ (a:List Int) (n:Int) (x0:Int) (out:List Int) (i:Nat):Option (List Int):=aK (fun (σ:List Int×Nat)=>mg a n x0 σ.1 σ.2) FU (out,i)
theorem F9 (a:List Int) (n:Int) (x0:Int) (out:List Int) (i:Nat):∀y:List Int,sQ a n x0 out i=some y→Runs Tryz.prog (.loop (nav [1,1,1,1,1,1,0,1,0,0] (ah Tryz.f241))) (wM a n x0 out i) ((.exit 0)) ((fun (y:List Int)=>xk a n x0 y) y):=
 aU (head:=fun (σ:List Int×Nat)=>wM a n x0 σ.1 σ.2) (eo:=fun (_:List Int)=>(.exit 0)) (so:=fun (y:List Int)=>xk a n x0 y) (Qr a n x0) (fun _ h=>by cases h) FU (out,i)
def mW (a:List Int) (n:Int):Option (List Int×Bool):=
 (sG a).bind fun x0=>
 (lC a).bind fun x1=>
 bif decide (n<0) then
 some ([],false)
 else
 bif decide (x1>1) then
 bif decide (0≤4096) then
 bif decide (0<x0) then
 bif decide (4096≤Go.Ab.hi .i64) then
 bif decide (n>(4096/x0)) then
 some ([],false)
 else
 bif !(decide (x1>1)) then
 (tq 1).bind fun x2=>
 (zf a n x0 x2 0).bind fun x3=>
 some (x3,true)
 else
 (tq 1).bind fun x2=>
 (sQ a n x0 x2 0).bind fun x3=>
 some (x3,true)
 else none
 else none
 else none
 else
 bif !(decide (x1>1)) then
 (tq 1).bind fun x2=>
 (zf a n x0 x2 0).bind fun x3=>
 some (x3,true)
 else
 (tq 1).bind fun x2=>
 (sQ a n x0 x2 0).bind fun x3=>
 some (x3,true)
theorem vV (a:List Int) (n:Int):∀r,mW a n=some r→aj Tryz.prog 241 0 [SL (cI .u32) a,I n] [] (.tup [SL (cI .u32) r.1,B r.2]) []:=
 ak (enc:=fun r=>.tup [SL (cI .u32) r.1,B r.2]) (aP:=fun r=>[]) 10 (.call [] [] (o8 a) .no fun x0=>.call [] [] (uh a) .no fun x1=>.br 30006 (.ps 1000003 [.n 4] (.ret ([],false))) (.br 30010 (.br 100000024 (.ps 1000003 [.n 4] (.ret ([],false))) (.br 100000026 (.call [] [] (mF 1) .no fun x2=>.ps 1000001 [.k [0,6,8,30,31] []] (.lp1 0 (Ku a n x0 x2 0) fun x3=>.ret (x3,true))) (.call [] [] (mF 1) .no fun x2=>.ps 1000001 [.k [0,6,8,30,31] []] (.lp1 0 (F9 a n x0 x2 0) fun x3=>.ret (x3,true))))) (.br 100000026 (.call [] [] (mF 1) .no fun x2=>.ps 1000001 [.k [0,6,8,30,31] []] (.lp1 0 (Ku a n x0 x2 0) fun x3=>.ret (x3,true))) (.call [] [] (mF 1) .no fun x2=>.ps 1000001 [.k [0,6,8,30,31] []] (.lp1 0 (F9 a n x0 x2 0) fun x3=>.ret (x3,true)))))) Tryz.func241 (by kernel_rfl) (by kernel_rfl) (by kernel_rfl)
def yh (a:List Int) (d:Int) (r:Int) (i:Int) (q:List Int):St:=⟨37,0,[(0,SL (cI .u32) a),(1,NI .u32 d),(4,.msl 10 0 none (some a.length)),(5,NI .u32 r),(7,I i)],[(10,ROW 1 (cI .u32) q 0)]⟩
def yw (a:List Int) (d:Int) (r:Int) (q:List Int):St:=⟨37,0,[(4,.msl 10 0 none (some a.length)),(5,NI .u32 r)],[(10,ROW 1 (cI .u32) q 0)]⟩
def mG (a:List Int) (d:Int) (r:Int) (i:Int) (q:List Int):Option ((Int×Int×List Int)⊕(Int×List Int)):=
 bif decide (i≥0) then
 bif decide (0≤i) then
 bif decide (i.toNat<a.length) then
 (vJ r (nth a i.toNat) d).bind fun x0=>
 bif decide (0≤i) then
 bif decide (i.toNat<q.length) then
 bif decide (i.toNat<q.length) then
 bif inK .i64 (i-1) then
 some (.inl (x0.2.1,i-1,q.set i.toNat x0.1))
 else none
 else none
 else none
 else none
 else none
 else none
 else
 some (.inr (r,q))
theorem QV (a:List Int) (d:Int):∀σ:Int×Int×List Int,aJ Tryz.prog (nav [1,1,1,0,1,0,0] (ah Tryz.f259)) (fun (σ:Int×Int×List Int)=>yh a d σ.1 σ.2.1 σ.2.2) (fun (_:Int×List Int)=>(.exit 0)) (fun (y:Int×List Int)=>yw a d y.1 y.2) σ (mG a d σ.1 σ.2.1 σ.2.2)
 | (r,i,q)=>aB 1010 (.br 100000017 (.op 70010 (.el (cI .u32) a .dn) (.call [] [] (JE r (nth a i.toNat) d) .no fun x0=>.op 70026 (.el (cI .u32) q .dn) (.op 70028 (.st (cI .u32) q x0.1) (.ps 1000003 [.k [0,1,4,5,7] [10]] (.ret (.inl (x0.2.1,i-1,q.set i.toNat x0.1))))))) (.ps 1000003 [.k [4,5] [10]] (.ret (.inr (r,q))))) (by kernel_rfl)
def yJ (a:List Int) (d:Int) (r:Int) (i:Int) (q:List Int):Option (Int×List Int):=aK (fun (σ:Int×Int×List Int)=>mG a d σ.1 σ.2.1 σ.2.2) FU (r,i,q)
theorem QT (a:List Int) (d:Int) (r:Int) (i:Int) (q:List Int):∀y:Int×List Int,yJ a d r i q=some y→Runs Tryz.prog (.loop (nav [1,1,1,0,1,0,0] (ah Tryz.f259))) (yh a d r i q) ((.exit 0)) ((fun (y:Int×List Int)=>yw a d y.1 y.2) y):=
 aU (head:=fun (σ:Int×Int×List Int)=>yh a d σ.1 σ.2.1 σ.2.2) (eo:=fun (_:Int×List Int)=>(.exit 0)) (so:=fun (y:Int×List Int)=>yw a d y.1 y.2) (QV a d) (fun _ h=>by cases h) FU (r,i,q)
def nH (a:List Int) (d:Int):Option (List Int×Int×Bool):=
 bif d==0 then
 some ([],0,false)
 else
 bif decide (a.length≤2147483648) then
 bif inK .i64 (((a.length:Nat):Int)-1) then
 (yJ a d 0 (((a.length:Nat):Int)-1) (List.replicate a.length 0)).bind fun x0=>
 (iF x0.2).bind fun x1=>
 some (x1,x0.1,true)
 else none
 else none
theorem pG (a:List Int) (d:Int):∀r,nH a d=some r→aj Tryz.prog 259 0 [SL (cI .u32) a,NI .u32 d] [] (.tup [SL (cI .u32) r.1,NI .u32 r.2.1,B r.2.2]) []:=
 ak (enc:=fun r=>.tup [SL (cI .u32) r.1,NI .u32 r.2.1,B r.2.2]) (aP:=fun r=>[]) 10 (.br 100000009 (.ps 1000003 [.n 4] (.ret ([],0,false))) (.op 30002 (.ln (cI .u32) a) (.op 30004 (.mk (cI .u32) 0 (.up a.length)) (.op 40002 (.ln (cI .u32) a) (.ps 1000001 [.k [0,1,4,5,7] [10]] (.lp1 0 (QT a d 0 (((a.length:Nat):Int)-1) (List.replicate a.length 0)) fun x0=>.call [] [] (iC x0.2) .no fun x1=>.ret (x1,x0.1,true))))))) Tryz.func259 (by kernel_rfl) (by kernel_rfl) (by kernel_rfl)
def uq (tA:List Int) (a:List Int):Option (List Int×List Int×Bool):=
 (iF a).bind fun x0=>
 bif ((x0.length:Nat):Int)==0 then
 some ([],[],false)
 else
 bif inK .i64 (((x0.length:Nat):Int)-1) then
 bif decide (0≤((x0.length:Nat):Int)-1) then
 bif decide ((((x0.length:Nat):Int)-1).toNat<x0.length) then
 (uJ (nth x0 ((((x0.length:Nat):Int)-1).toNat))).bind fun x1=>
 bif inK .i64 (32-x1) then
 (yX tA (32-x1)).bind fun x2=>
 (yX x0 (32-x1)).bind fun x3=>
 bif decide (x2.length≤2147483648) then
 bif inK .i64 (((x2.length:Nat):Int)-1) then
 (zH x1 x2 x3 [] (((x2.length:Nat):Int)-1) (List.replicate x2.length 0)).bind fun x4=>
 (mW [2] (32-x1)).bind fun x5=>
 bif decide (0<x5.1.length) then
 (nH x4.1 (nth x5.1 0)).bind fun x6=>
 (iF x4.2).bind fun x7=>
 some (x7,x6.1,true)
 else none
 else none
 else none
 else none
 else none
 else none
 else none
theorem IJ (tA:List Int) (a:List Int):∀r,uq tA a=some r→aj Tryz.prog 220 0 [SL (cI .u32) tA,SL (cI .u32) a] [] (.tup [SL (cI .u32) r.1,SL (cI .u32) r.2.1,B r.2.2]) []:=
 ak (enc:=fun r=>.tup [SL (cI .u32) r.1,SL (cI .u32) r.2.1,B r.2.2]) (aP:=fun r=>[]) 10 (.call [] [] (iC a) .no fun x0=>.op 20002 (.ln (cI .u32) x0) (.br 100000015 (.ps 1000003 [.n 4,.n 5] (.ret ([],[],false))) (.op 40004 (.ln (cI .u32) x0) (.op 40008 (.el (cI .u32) x0 .dn) (.call [] [] (P8 (nth x0 ((((x0.length:Nat):Int)-1).toNat))) .no fun x1=>.call [] [] (Jj tA (32-x1)) .no fun x2=>.call [] [] (Jj x0 (32-x1)) .no fun x3=>.op 60002 (.ln (cI .u32) x2) (.op 60004 (.mk (cI .u32) 0 (.up x2.length)) (.op 70002 (.ln (cI .u32) x2) (.ps 1000001 [.n 5,.k [0,1,4,5,7,8] [10]] (.lp1 0 (VO x1 x2 x3 [] (((x2.length:Nat):Int)-1) (List.replicate x2.length 0)) fun x4=>.call [] [] (vV [2] (32-x1)) .no fun x5=>.op 120004 (.el (cI .u32) x5.1 (.up 0)) (.call [] [] (pG x4.1 (nth x5.1 0)) .no fun x6=>.call [] [] (iC x4.2) .no fun x7=>.ret (x7,x6.1,true))))))))))) Tryz.func220 (by kernel_rfl) (by kernel_rfl) (by kernel_rfl)
end Go.Ab.M
