import Derived.Test.YtjboagogechleaaGreatTA
namespace Go.Ab.M
open Go.Proofs
set_option linter.unusedVariables false
set_option maxRecDepth 100000
def Dv (l:List Int) (n:Int):St:=⟨19,0,[(0,SL (cI .u32) l),(3,I n)],[]⟩
def Dw (l:List Int) (n:Int):St:=⟨19,0,[(3,I n)],[]⟩
def oI (l:List Int) (n:Int):Option (Int⊕Int):=
 bif decide (n>0) then
 bif inK .i64 (n-1) then
 bif decide (0≤n-1) then
 bif decide ((n-1).toNat<l.length) then
 bif (nth l ((n-1).toNat))==0 then
 bif inK .i64 (n-1) then
 some (.inl (n-1))
 else none
 else
 some (.inr n)
 else none
 else none
 else none
 else
 some (.inr n)
theorem TT (l:List Int):∀σ:Int,aN Tryz.prog (nav [1,1,0,0,0] (ah Tryz.f179)) (fun (σ:Int)=>Dv l σ) (fun (_:Int)=>(.exit 0)) (fun (y:Int)=>Dw l y) σ (oI l σ)
 | n=>aH 1010 (.br 20006 (.op 20012 (.el (cI .u32) l .dn) (.br 100000015 (.ps 1000003 [.k [0,3] []] (.ret (.inl (n-1)))) (.ps 1000003 [.k [3] []] (.ret (.inr n))))) (.ps 1000003 [.k [3] []] (.ret (.inr n)))) (by kernel_rfl)
def FI (l:List Int) (n:Int):Option Int:=aK (fun (σ:Int)=>oI l σ) FU n
theorem SQ (l:List Int) (n:Int):∀y:Int,FI l n=some y→Runs Tryz.prog (.loop (nav [1,1,0,0,0] (ah Tryz.f179))) (Dv l n) ((.exit 0)) ((fun (y:Int)=>Dw l y) y):=
 aX (head:=fun (σ:Int)=>Dv l σ) (eo:=fun (_:Int)=>(.exit 0)) (so:=fun (y:Int)=>Dw l y) (TT l) (fun _ h=>by cases h) FU n
def oK (l:List Int):Option Int:=
 (FI l ((l.length:Nat):Int)).bind fun x0=>
 some x0
theorem mM (l:List Int):∀r,oK l=some r→au Tryz.prog 179 0 [SL (cI .u32) l] [] (I r) []:=
 ay (enc:=fun r=>I r) (aU:=fun r=>[]) 10 (.op 10002 (.ln (cI .u32) l) (.ps 1000001 [.k [0,3] []] (.lp1 0 (SQ l ((l.length:Nat):Int)) fun x0=>.ret x0))) Tryz.func179 (by kernel_rfl) (by kernel_rfl) (by kernel_rfl)
def jJ (x:Int):Option Int:=
 bif decide (x≥65536) then
 bif decide ((lV .u32 x 16)≥256) then
 bif decide (0≤IntKind.wrap .u8 (lV .u32 (lV .u32 x 16) 8)) then
 bif decide ((IntKind.wrap .u8 (lV .u32 (lV .u32 x 16) 8)).toNat<kU.size) then
 bif inK .i64 ((kU.get! ((IntKind.wrap .u8 (lV .u32 (lV .u32 x 16) 8)).toNat)).toNat:Int) then
 bif inK .i64 ((16+8)+((kU.get! ((IntKind.wrap .u8 (lV .u32 (lV .u32 x 16) 8)).toNat)).toNat:Int)) then
 some ((16+8)+((kU.get! ((IntKind.wrap .u8 (lV .u32 (lV .u32 x 16) 8)).toNat)).toNat:Int))
 else none
 else none
 else none
 else none
 else
 bif decide (0≤IntKind.wrap .u8 (lV .u32 x 16)) then
 bif decide ((IntKind.wrap .u8 (lV .u32 x 16)).toNat<kU.size) then
 bif inK .i64 ((kU.get! ((IntKind.wrap .u8 (lV .u32 x 16)).toNat)).toNat:Int) then
 bif inK .i64 (16+((kU.get! ((IntKind.wrap .u8 (lV .u32 x 16)).toNat)).toNat:Int)) then
 some (16+((kU.get! ((IntKind.wrap .u8 (lV .u32 x 16)).toNat)).toNat:Int))
 else none
 else none
 else none
 else none
 else
 bif decide (x≥256) then
 bif decide (0≤IntKind.wrap .u8 (lV .u32 x 8)) then
 bif decide ((IntKind.wrap .u8 (lV .u32 x 8)).toNat<kU.size) then
 bif inK .i64 ((kU.get! ((IntKind.wrap .u8 (lV .u32 x 8)).toNat)).toNat:Int) then
 bif inK .i64 ((0+8)+((kU.get! ((IntKind.wrap .u8 (lV .u32 x 8)).toNat)).toNat:Int)) then
 some ((0+8)+((kU.get! ((IntKind.wrap .u8 (lV .u32 x 8)).toNat)).toNat:Int))
 else none
 else none
 else none
 else none
 else
 bif decide (0≤IntKind.wrap .u8 x) then
 bif decide ((IntKind.wrap .u8 x).toNat<kU.size) then
 bif inK .i64 ((kU.get! ((IntKind.wrap .u8 x).toNat)).toNat:Int) then
 bif inK .i64 (0+((kU.get! ((IntKind.wrap .u8 x).toNat)).toNat:Int)) then
 some (0+((kU.get! ((IntKind.wrap .u8 x).toNat)).toNat:Int))
 else none
 else none
 else none
 else none
theorem JR (x:Int):∀r,jJ x=some r→au Tryz.prog 192 0 [NI .u32 x] [] (I r) []:=
 ay (enc:=fun r=>I r) (aU:=fun r=>[]) 10 (.br 100000004 (.br 100000008 (.op 70004 .wr (.op 70006 (.ch kU .dn) (.ret ((16+8)+((kU.get! ((IntKind.wrap .u8 (lV .u32 (lV .u32 x 16) 8)).toNat)).toNat:Int))))) (.op 70004 .wr (.op 70006 (.ch kU .dn) (.ret (16+((kU.get! ((IntKind.wrap .u8 (lV .u32 x 16)).toNat)).toNat:Int)))))) (.br 100000008 (.op 70004 .wr (.op 70006 (.ch kU .dn) (.ret ((0+8)+((kU.get! ((IntKind.wrap .u8 (lV .u32 x 8)).toNat)).toNat:Int))))) (.op 70004 .wr (.op 70006 (.ch kU .dn) (.ret (0+((kU.get! ((IntKind.wrap .u8 x).toNat)).toNat:Int))))))) Tryz.func192 (by kernel_rfl) (by kernel_rfl) (by kernel_rfl)
def qL (a:Int):Option Int:=
 (jJ a).bind fun x0=>
 some x0
theorem J5 (a:Int):∀r,qL a=some r→au Tryz.prog 246 0 [NI .u32 a] [] (I r) []:=
 ay (enc:=fun r=>I r) (aU:=fun r=>[]) 10 (.call [] [] (JR a) .no fun x0=>.ret x0) Tryz.func246 (by kernel_rfl) (by kernel_rfl) (by kernel_rfl)
def nG (a:List Int):Option Int:=
 (oK a).bind fun x0=>
 bif x0==0 then
 some 0
 else
 bif inK .i64 (x0-1) then
 bif inK .i64 (32*(x0-1)) then
 bif inK .i64 (x0-1) then
 bif decide (0≤x0-1) then
 bif decide ((x0-1).toNat<a.length) then
 (qL (nth a ((x0-1).toNat))).bind fun x1=>
 bif inK .i64 ((32*(x0-1))+x1) then
 some ((32*(x0-1))+x1)
 else none
 else none
 else none
 else none
 else none
 else none
theorem Gs (a:List Int):∀r,nG a=some r→au Tryz.prog 213 0 [SL (cI .u32) a] [] (I r) []:=
 ay (enc:=fun r=>I r) (aU:=fun r=>[]) 10 (.call [] [] (mM a) .no fun x0=>.br 100000007 (.ret 0) (.op 40012 (.el (cI .u32) a .dn) (.call [] [] (J5 (nth a ((x0-1).toNat))) .no fun x1=>.ret ((32*(x0-1))+x1)))) Tryz.func213 (by kernel_rfl) (by kernel_rfl) (by kernel_rfl)
def fQ (a:List Int):Option (List Int):=
 (oK a).bind fun x0=>
 bif x0==0 then
 some []
 else
 bif decide (0≤x0) then
 bif decide (x0.toNat≤2147483648) then
 some (a.take (List.replicate x0.toNat 0:List Int).length++(List.replicate x0.toNat 0:List Int).drop a.length)
 else none
 else none
theorem fG (a:List Int):∀r,fQ a=some r→au Tryz.prog 166 0 [SL (cI .u32) a] [] (SL (cI .u32) r) []:=
 ay (enc:=fun r=>SL (cI .u32) r) (aU:=fun r=>[]) 10 (.call [] [] (mM a) .no fun x0=>.br 100000008 (.ps 1000003 [.n 2] (.ret [])) (.op 40002 (.mk (cI .u32) 0 .dn) (.op 50004 (.ap (cI .u32) (List.replicate x0.toNat 0) a 1 fun _=>⟨rfl,rfl⟩) (.ps 1000003 [.z 2] (.ret (a.take (List.replicate x0.toNat 0:List Int).length++(List.replicate x0.toNat 0:List Int).drop a.length)))))) Tryz.func166 (by kernel_rfl) (by kernel_rfl) (by kernel_rfl)
def Ah (l:List Int) (n:Int) (i:Nat):St:=⟨18,0,[(3,NI .u64 n),(6,SL (cI .u32) l),(7,I ((l.length:Nat):Int)),(8,I ((i:Nat):Int))],[]⟩
def zL (l:List Int) (n:Int):St:=⟨18,0,[(3,NI .u64 n)],[]⟩
def aW (l:List Int) (n:Int) (i:Nat):Option ((Int×Nat)⊕Int):=
 bif decide (((i:Nat):Int)<((l.length:Nat):Int)) then
 bif decide (i<l.length) then
 bif inK .u64 (nth l i) then
 bif inK .i64 (((i:Nat):Int)+1) then
 some (.inl (IntKind.wrap .u64 (n+(nth l i)),i+1))
 else none
 else none
 else none
 else
 some (.inr n)
theorem QB (l:List Int):∀σ:Int×Nat,aN Tryz.prog (nav [1,1,0,1,0,0] (ah Tryz.f252)) (fun (σ:Int×Nat)=>Ah l σ.1 σ.2) (fun (_:Int)=>(.exit 0)) (fun (y:Int)=>zL l y) σ (aW l σ.1 σ.2)
 | (n,i)=>aH 1010 (.br 100000009 (.op 40000 (.el (cI .u32) l (.up i)) (.ps 1000003 [.k [3,6,7,8] []] (.ret (.inl (IntKind.wrap .u64 (n+(nth l i)),i+1))))) (.ps 1000003 [.k [3] []] (.ret (.inr n)))) (by kernel_rfl)
def kY (l:List Int) (n:Int) (i:Nat):Option Int:=aK (fun (σ:Int×Nat)=>aW l σ.1 σ.2) FU (n,i)
theorem Qn (l:List Int) (n:Int) (i:Nat):∀y:Int,kY l n i=some y→Runs Tryz.prog (.loop (nav [1,1,0,1,0,0] (ah Tryz.f252))) (Ah l n i) ((.exit 0)) ((fun (y:Int)=>zL l y) y):=
 aX (head:=fun (σ:Int×Nat)=>Ah l σ.1 σ.2) (eo:=fun (_:Int)=>(.exit 0)) (so:=fun (y:Int)=>zL l y) (QB l) (fun _ h=>by cases h) FU (n,i)
def kR (l:List Int):Option Int:=
 (kY l 0 0).bind fun x0=>
 some x0
theorem yB (l:List Int):∀r,kR l=some r→au Tryz.prog 252 0 [SL (cI .u32) l] [] (NI .u64 r) []:=
 ay (enc:=fun r=>NI .u64 r) (aU:=fun r=>[]) 10 (.op 20002 (.ln (cI .u32) l) (.ps 1000001 [.k [3,6,7,8] []] (.lp1 0 (Qn l 0 0) fun x0=>.ret x0))) Tryz.func252 (by kernel_rfl) (by kernel_rfl) (by kernel_rfl)
def uK (n:Int):Option (Int×Int):=
 some (IntKind.wrap .u32 (lV .u64 n 32),IntKind.wrap .u32 n)
theorem Du (n:Int):∀r,uK n=some r→au Tryz.prog 251 0 [NI .u64 n] [] (.tup [NI .u32 r.1,NI .u32 r.2]) []:=
 ay (enc:=fun r=>.tup [NI .u32 r.1,NI .u32 r.2]) (aU:=fun r=>[]) 10 (.op 10004 .wr (.op 10008 .wr (.ret (IntKind.wrap .u32 (lV .u64 n 32),IntKind.wrap .u32 n)))) Tryz.func251 (by kernel_rfl) (by kernel_rfl) (by kernel_rfl)
def Ho (a:Int) (b:Int) (c:Int) (d:Int):Option (Int×Int):=
 bif inK .u64 a then
 bif inK .u64 b then
 (kR [c,d]).bind fun x0=>
 (uK (IntKind.wrap .u64 ((IntKind.wrap .u64 (a*b))+x0))).bind fun x1=>
 some (x1.1,x1.2)
 else none
 else none
theorem NH (a:Int) (b:Int) (c:Int) (d:Int):∀r,Ho a b c d=some r→au Tryz.prog 215 0 [NI .u32 a,NI .u32 b,NI .u32 c,NI .u32 d] [] (.tup [NI .u32 r.1,NI .u32 r.2]) []:=
 ay (enc:=fun r=>.tup [NI .u32 r.1,NI .u32 r.2]) (aU:=fun r=>[]) 10 (.call [] [] (yB [c,d]) (.yes fun _=>⟨rfl,trivial⟩) fun x0=>.call [] [] (Du (IntKind.wrap .u64 ((IntKind.wrap .u64 (a*b))+x0))) .no fun x1=>.ret (x1.1,x1.2)) Tryz.func215 (by kernel_rfl) (by kernel_rfl) (by kernel_rfl)
def wJ (bV:Nat) (a:List Int) (w:Int) (c1:Int) (i:Nat) (out:List Int):St:=⟨37,1,[(0,.msl 0 0 none (some bV)),(1,SL (cI .u32) a),(2,NI .u32 w),(3,NI .u32 c1),(10,SL (cI .u32) a),(11,I ((a.length:Nat):Int)),(12,I ((i:Nat):Int))],[(0,ROW 1 (cI .u32) out 0)]⟩
def xJ (bV:Nat) (a:List Int) (w:Int) (c1:Int) (out:List Int):St:=⟨37,1,[(0,.msl 0 0 none (some bV)),(1,SL (cI .u32) a),(3,NI .u32 c1)],[(0,ROW 1 (cI .u32) out 0)]⟩
def oO (bV:Nat) (a:List Int) (w:Int) (c1:Int) (i:Nat) (out:List Int):Option ((Int×Nat×List Int)⊕(Int×List Int)):=
 bif decide (((i:Nat):Int)<((a.length:Nat):Int)) then
 bif decide (i<a.length) then
 bif decide (i<out.length) then
 bif decide (i<out.length) then
 (Ho (nth a i) w (nth out i) c1).bind fun x0=>
 bif decide (i<out.length) then
 bif decide (i<out.length) then
 bif inK .i64 (((i:Nat):Int)+1) then
 some (.inl (x0.1,i+1,out.set i x0.2))
 else none
 else none
 else none
 else none
 else none
 else none
 else
 some (.inr (c1,out))
theorem OZ (bV:Nat) (a:List Int) (w:Int):∀σ:Int×Nat×List Int,aN Tryz.prog (nav [0,1,0,0] (ah Tryz.f165)) (fun (σ:Int×Nat×List Int)=>wJ bV a w σ.1 σ.2.1 σ.2.2) (fun (_:Int×List Int)=>(.exit 0)) (fun (y:Int×List Int)=>xJ bV a w y.1 y.2) σ (oO bV a w σ.1 σ.2.1 σ.2.2)
 | (c1,i,out)=>aH 1010 (.br 100000013 (.op 20002 (.el (cI .u32) a (.up i)) (.op 30012 (.el (cI .u32) out (.up i)) (.op 30014 (.ld (cI .u32) out) (.call [] [] (NH (nth a i) w (nth out i) c1) .no fun x0=>.op 30028 (.el (cI .u32) out (.up i)) (.op 30030 (.st (cI .u32) out x0.2) (.ps 1000003 [.k [0,1,2,3,10,11,12] [0]] (.ret (.inl (x0.1,i+1,out.set i x0.2))))))))) (.ps 1000003 [.k [0,1,3] [0]] (.ret (.inr (c1,out))))) (by kernel_rfl)
def FK (bV:Nat) (a:List Int) (w:Int) (c1:Int) (i:Nat) (out:List Int):Option (Int×List Int):=aK (fun (σ:Int×Nat×List Int)=>oO bV a w σ.1 σ.2.1 σ.2.2) FU (c1,i,out)
theorem OY (bV:Nat) (a:List Int) (w:Int) (c1:Int) (i:Nat) (out:List Int):∀y:Int×List Int,FK bV a w c1 i out=some y→Runs Tryz.prog (.loop (nav [0,1,0,0] (ah Tryz.f165))) (wJ bV a w c1 i out) ((.exit 0)) ((fun (y:Int×List Int)=>xJ bV a w y.1 y.2) y):=
 aX (head:=fun (σ:Int×Nat×List Int)=>wJ bV a w σ.1 σ.2.1 σ.2.2) (eo:=fun (_:Int×List Int)=>(.exit 0)) (so:=fun (y:Int×List Int)=>xJ bV a w y.1 y.2) (OZ bV a w) (fun _ h=>by cases h) FU (c1,i,out)
def FP (o0:List Int) (bV:Nat) (a:List Int) (w:Int) (c:Int):Option (List Int):=
 (FK bV a w c 0 o0).bind fun x0=>
 bif decide (a.length<x0.2.length) then
 bif decide (a.length<x0.2.length) then
 some (x0.2.set a.length x0.1)
 else none
 else none
theorem S9 (o0:List Int) (bV:Nat) (a:List Int) (w:Int) (c:Int):∀r,FP o0 bV a w c=some r→au Tryz.prog 165 1 [.msl 0 0 none (some bV),SL (cI .u32) a,NI .u32 w,NI .u32 c] [(0,ROW 1 (cI .u32) o0 0)] (.tup []) [(0,ROW 1 (cI .u32) r 0)]:=
 ay (enc:=fun r=>.tup []) (aU:=fun r=>[(0,ROW 1 (cI .u32) r 0)]) 10 (.op 2 (.ln (cI .u32) a) (.ps 1000001 [.k [0,1,2,3,10,11,12] [0]] (.lp1 0 (OY bV a w c 0 o0) fun x0=>.op 50004 (.ln (cI .u32) a) (.op 50008 (.el (cI .u32) x0.2 (.up a.length)) (.op 50010 (.st (cI .u32) x0.2 x0.1) (.ret (x0.2.set a.length x0.1))))))) Tryz.func165 (by kernel_rfl) (by kernel_rfl) (by kernel_rfl)
def Eh (a:List Int) (w:Int) (c:Int):Option (List Int):=
 bif inK .i64 (((a.length:Nat):Int)+1) then
 bif decide (a.length+1≤2147483648) then
 (FP (List.replicate (a.length+1) 0) (a.length+1) a w c).bind fun x0=>
 (fQ x0).bind fun x1=>
 some x1
 else none
 else none
theorem LU (a:List Int) (w:Int) (c:Int):∀r,Eh a w c=some r→au Tryz.prog 265 0 [SL (cI .u32) a,NI .u32 w,NI .u32 c] [] (SL (cI .u32) r) []:=
 ay (enc:=fun r=>SL (cI .u32) r) (aU:=fun r=>[]) 10 (.op 10002 (.ln (cI .u32) a) (.op 10006 (.mk (cI .u32) 0 (.up (a.length+1))) (.call [10] [] (S9 (List.replicate (a.length+1) 0) (a.length+1) a w c) .no fun x0=>.call [] [] (fG x0) .no fun x1=>.ret x1))) Tryz.func265 (by kernel_rfl) (by kernel_rfl) (by kernel_rfl)
def wB (a:List Int) (n:Int):Option (List Int):=
 bif decide (0≤mxI 0 (mnI n 100000)) then
 bif decide (0<32) then
 bif decide (mxI 0 (mnI n 100000)≤Go.Ab.hi .i64) then
 bif decide (0≤(mxI 0 (mnI n 100000))/32) then
 bif decide (((mxI 0 (mnI n 100000))/32).toNat≤2147483648) then
 bif decide (0≤mxI 0 (mnI n 100000)) then
 bif decide (0<32) then
 bif decide (0≤(mxI 0 (mnI n 100000))%32) then
 (Eh a (Ll .u32 1 ((mxI 0 (mnI n 100000))%32)) 0).bind fun x0=>
 bif decide ((List.replicate (((mxI 0 (mnI n 100000))/32).toNat) 0:List Int).length+x0.length≤2147483648) then
 (fQ ((List.replicate (((mxI 0 (mnI n 100000))/32).toNat) 0)++x0)).bind fun x1=>
 some x1
 else none
 else none
 else none
 else none
 else none
 else none
 else none
 else none
 else none
theorem GN (a:List Int) (n:Int):∀r,wB a n=some r→au Tryz.prog 247 0 [SL (cI .u32) a,I n] [] (SL (cI .u32) r) []:=
 ay (enc:=fun r=>SL (cI .u32) r) (aU:=fun r=>[]) 10 (.op 20004 (.mk (cI .u32) 0 .dn) (.call [] [] (LU a (Ll .u32 1 ((mxI 0 (mnI n 100000))%32)) 0) .no fun x0=>.op 30012 (.ap (cI .u32) (List.replicate (((mxI 0 (mnI n 100000))/32).toNat) 0) x0 1 fun _=>⟨rfl,rfl⟩) (.call [] [] (fG ((List.replicate (((mxI 0 (mnI n 100000))/32).toNat) 0)++x0)) .no fun x1=>.ret x1))) Tryz.func247 (by kernel_rfl) (by kernel_rfl) (by kernel_rfl)
def rO (hi:Int) (lo:Int) (d:Int):Option (Int×Int×Bool):=
 bif decide (hi≥d) then
 some (0,0,false)
 else
 bif inK .u64 hi then
 bif inK .u64 lo then
 bif inK .u64 d then
 bif decide (0≤VT .u64 (Ll .u64 hi 32) lo) then
 bif decide (0<d) then
 bif decide (VT .u64 (Ll .u64 hi 32) lo≤Go.Ab.hi .u64) then
 bif inK .u64 d then
 bif decide (0≤VT .u64 (Ll .u64 hi 32) lo) then
 bif decide (0<d) then
 some (IntKind.wrap .u32 ((VT .u64 (Ll .u64 hi 32) lo)/d),IntKind.wrap .u32 ((VT .u64 (Ll .u64 hi 32) lo)%d),true)
 else none
 else none
 else none
 else none
 else none
 else none
 else none
 else none
 else none
theorem Hl (hi:Int) (lo:Int) (d:Int):∀r,rO hi lo d=some r→au Tryz.prog 267 0 [NI .u32 hi,NI .u32 lo,NI .u32 d] [] (.tup [NI .u32 r.1,NI .u32 r.2.1,B r.2.2]) []:=
 ay (enc:=fun r=>.tup [NI .u32 r.1,NI .u32 r.2.1,B r.2.2]) (aU:=fun r=>[]) 10 (.br 100000012 (.ret (0,0,false)) (.op 40008 .wr (.op 40018 .wr (.ret (IntKind.wrap .u32 ((VT .u64 (Ll .u64 hi 32) lo)/d),IntKind.wrap .u32 ((VT .u64 (Ll .u64 hi 32) lo)%d),true))))) Tryz.func267 (by kernel_rfl) (by kernel_rfl) (by kernel_rfl)
def nR (rest:List Int) (b:List Int):Option Int:=
 bif decide (((rest.length:Nat):Int)<((b.length:Nat):Int)) then
 some 0
 else
 bif decide (((rest.length:Nat):Int)>((b.length:Nat):Int)) then
 bif decide (b.length<rest.length) then
 bif inK .i64 (((b.length:Nat):Int)-1) then
 bif decide (0≤((b.length:Nat):Int)-1) then
 bif decide ((((b.length:Nat):Int)-1).toNat<rest.length) then
 bif inK .i64 (((b.length:Nat):Int)-1) then
 bif decide (0≤((b.length:Nat):Int)-1) then
 bif decide ((((b.length:Nat):Int)-1).toNat<b.length) then
 (rO (nth rest b.length) (nth rest ((((b.length:Nat):Int)-1).toNat)) (nth b ((((b.length:Nat):Int)-1).toNat))).bind fun x0=>
 bif !x0.2.2 then
 some 4294967295
 else
 some x0.1
 else none
 else none
 else none
 else none
 else none
 else none
 else none
 else
 bif inK .i64 (((b.length:Nat):Int)-1) then
 bif decide (0≤((b.length:Nat):Int)-1) then
 bif decide ((((b.length:Nat):Int)-1).toNat<rest.length) then
 bif inK .i64 (((b.length:Nat):Int)-1) then
 bif decide (0≤((b.length:Nat):Int)-1) then
 bif decide ((((b.length:Nat):Int)-1).toNat<b.length) then
 (rO 0 (nth rest ((((b.length:Nat):Int)-1).toNat)) (nth b ((((b.length:Nat):Int)-1).toNat))).bind fun x0=>
 bif !x0.2.2 then
 some 4294967295
 else
 some x0.1
 else none
 else none
 else none
 else none
 else none
 else none
theorem RH (rest:List Int) (b:List Int):∀r,nR rest b=some r→au Tryz.prog 266 0 [SL (cI .u32) rest,SL (cI .u32) b] [] (NI .u32 r) []:=
 ay (enc:=fun r=>NI .u32 r) (aU:=fun r=>[]) 10 (.op 10002 (.ln (cI .u32) b) (.op 20002 (.ln (cI .u32) rest) (.br 100000015 (.ret 0) (.op 50002 (.ln (cI .u32) rest) (.br 100000019 (.op 60004 (.el (cI .u32) rest (.up b.length)) (.op 70008 (.el (cI .u32) rest .dn) (.op 70018 (.el (cI .u32) b .dn) (.call [] [] (Hl (nth rest b.length) (nth rest ((((b.length:Nat):Int)-1).toNat)) (nth b ((((b.length:Nat):Int)-1).toNat))) .no fun x0=>.br 100000041 (.ret 4294967295) (.ret x0.1))))) (.op 70008 (.el (cI .u32) rest .dn) (.op 70018 (.el (cI .u32) b .dn) (.call [] [] (Hl 0 (nth rest ((((b.length:Nat):Int)-1).toNat)) (nth b ((((b.length:Nat):Int)-1).toNat))) .no fun x0=>.br 100000041 (.ret 4294967295) (.ret x0.1))))))))) Tryz.func266 (by kernel_rfl) (by kernel_rfl) (by kernel_rfl)
def cmp_Compare_int (x:Int) (y:Int):Option Int:=
 (cmp_isNaN_int x).bind fun x0=>
 (cmp_isNaN_int y).bind fun x1=>
 bif x0 then
 bif x1 then
 some 0
 else
 some (-1)
 else
 bif x1 then
 some 1
 else
 bif decide (x<y) then
 some (-1)
 else
 bif decide (x>y) then
 some 1
 else
 some 0
theorem pG (x:Int) (y:Int):∀r,cmp_Compare_int x y=some r→au Tryz.prog 143 0 [I x,I y] [] (I r) []:=
 ay (enc:=fun r=>I r) (aU:=fun r=>[]) 10 (.call [] [] (Ez x) .no fun x0=>.call [] [] (Ez y) .no fun x1=>.br 100000011 (.br 100000012 (.ret 0) (.ret (-1))) (.br 100000013 (.ret 1) (.br 100000016 (.ret (-1)) (.br 100000019 (.ret 1) (.ret 0))))) Tryz.func143 (by kernel_rfl) (by kernel_rfl) (by kernel_rfl)
def nV (x:Int):Option Bool:=
 some (x != x)
theorem yj (x:Int):∀r,nV x=some r→au Tryz.prog 254 0 [NI .u32 x] [] (B r) []:=
 ay (enc:=fun r=>B r) (aU:=fun r=>[]) 10 (.ret (x != x)) Tryz.func254 (by kernel_rfl) (by kernel_rfl) (by kernel_rfl)
def lJ (x:Int) (y:Int):Option Int:=
 (nV x).bind fun x0=>
 (nV y).bind fun x1=>
 bif x0 then
 bif x1 then
 some 0
 else
 some (-1)
 else
 bif x1 then
 some 1
 else
 bif decide (x<y) then
 some (-1)
 else
 bif decide (x>y) then
 some 1
 else
 some 0
theorem F9 (x:Int) (y:Int):∀r,lJ x y=some r→au Tryz.prog 220 0 [NI .u32 x,NI .u32 y] [] (I r) []:=
 ay (enc:=fun r=>I r) (aU:=fun r=>[]) 10 (.call [] [] (yj x) .no fun x0=>.call [] [] (yj y) .no fun x1=>.br 100000011 (.br 100000012 (.ret 0) (.ret (-1))) (.br 100000013 (.ret 1) (.br 100000016 (.ret (-1)) (.br 100000019 (.ret 1) (.ret 0))))) Tryz.func220 (by kernel_rfl) (by kernel_rfl) (by kernel_rfl)
def ET (a:List Int) (b:List Int) (x0:Int) (i:Nat):St:=⟨41,0,[(0,SL (cI .u32) a),(1,SL (cI .u32) b),(5,I x0),(18,I x0),(19,I ((i:Nat):Int))],[]⟩
def Fg (a:List Int) (b:List Int) (x0:Int) (i:Int):St:=⟨41,0,[(4,I i)],[]⟩
def Fq (a:List Int) (b:List Int) (x0:Int):St:=⟨41,0,[],[]⟩
def iM (a:List Int) (b:List Int) (x0:Int) (i:Nat):Option (Nat⊕(Int⊕Unit)):=
 bif decide (((i:Nat):Int)<x0) then
 bif inK .i64 (x0-1) then
 bif inK .i64 ((x0-1)-((i:Nat):Int)) then
 bif decide (0≤(x0-1)-((i:Nat):Int)) then
 bif decide (((x0-1)-((i:Nat):Int)).toNat<a.length) then
 bif inK .i64 (x0-1) then
 bif inK .i64 ((x0-1)-((i:Nat):Int)) then
 bif decide (0≤(x0-1)-((i:Nat):Int)) then
 bif decide (((x0-1)-((i:Nat):Int)).toNat<b.length) then
 (lJ (nth a (((x0-1)-((i:Nat):Int)).toNat)) (nth b (((x0-1)-((i:Nat):Int)).toNat))).bind fun x3=>
 bif x3 != 0 then
 some (.inr (.inl x3))
 else
 bif inK .i64 (((i:Nat):Int)+1) then
 some (.inl (i+1))
 else none
 else none
 else none
 else none
 else none
 else none
 else none
 else none
 else none
 else
 some (.inr (.inr ()))
theorem U5 (a:List Int) (b:List Int) (x0:Int):∀σ:Nat,aN Tryz.prog (nav [1,1,1,0,1,0,0] (ah Tryz.f180)) (fun (σ:Nat)=>ET a b x0 σ) (fun (y:Int⊕Unit)=>aC y (fun _=>.ret) (fun _=>(.exit 0))) (fun (y:Int⊕Unit)=>aC y (fun y=>Fg a b x0 y) (fun y=>Fq a b x0)) σ (iM a b x0 σ)
 | i=>aH 1010 (.br 100000020 (.op 80010 (.el (cI .u32) a .dn) (.op 80024 (.el (cI .u32) b .dn) (.call [] [] (F9 (nth a (((x0-1)-((i:Nat):Int)).toNat)) (nth b (((x0-1)-((i:Nat):Int)).toNat))) .no fun x3=>.br 100000038 (.ps 1000003 [.k [4] []] (.ret (.inr (.inl x3)))) (.ps 1000003 [.k [0,1,5,18,19] []] (.ret (.inl (i+1))))))) (.ps 1000003 [.k [] []] (.ret (.inr (.inr ()))))) (by kernel_rfl)
def Iw (a:List Int) (b:List Int) (x0:Int) (i:Nat):Option (Int⊕Unit):=aK (fun (σ:Nat)=>iM a b x0 σ) FU i
theorem WB (a:List Int) (b:List Int) (x0:Int) (i:Nat):∀y:Int⊕Unit,Iw a b x0 i=some y→Runs Tryz.prog (.loop (nav [1,1,1,0,1,0,0] (ah Tryz.f180))) (ET a b x0 i) (aC y (fun _=>.ret) (fun _=>(.exit 0))) ((fun (y:Int⊕Unit)=>aC y (fun y=>Fg a b x0 y) (fun y=>Fq a b x0)) y):=
 aX (head:=fun (σ:Nat)=>ET a b x0 σ) (eo:=fun (y:Int⊕Unit)=>aC y (fun _=>.ret) (fun _=>(.exit 0))) (so:=fun (y:Int⊕Unit)=>aC y (fun y=>Fg a b x0 y) (fun y=>Fq a b x0)) (U5 a b x0) (fun y h=>by rcases y with y | y<;>cases h) FU i
def JZ (a:List Int) (b:List Int):Option Int:=
 (oK a).bind fun x0=>
 (oK b).bind fun x1=>
 (cmp_Compare_int x0 x1).bind fun x2=>
 bif x2 != 0 then
 some x2
 else
 (Iw a b x0 0).bind fun y_=>aC y_ (fun x3=>
 some x3)
 (fun x4=>
 some 0)
theorem P8 (a:List Int) (b:List Int):∀r,JZ a b=some r→au Tryz.prog 180 0 [SL (cI .u32) a,SL (cI .u32) b] [] (I r) []:=
 ay (enc:=fun r=>I r) (aU:=fun r=>[]) 10 (.call [] [] (mM a) .no fun x0=>.call [] [] (mM b) .no fun x1=>.call [] [] (pG x0 x1) .no fun x2=>.br 100000016 (.ret x2) (.ps 1000001 [.k [0,1,5,18,19] []] (.lp2 0 (WB a b x0 0) (fun x3=>.ret x3) (fun x4=>.ret 0)))) Tryz.func180 (by kernel_rfl) (by kernel_rfl) (by kernel_rfl)
def JG (a:List Int) (i:Int):Option Int:=
 bif decide (i<((a.length:Nat):Int)) then
 bif decide (0≤i) then
 bif decide (i.toNat<a.length) then
 some (nth a i.toNat)
 else none
 else none
 else
 some 0
theorem MN (a:List Int) (i:Int):∀r,JG a i=some r→au Tryz.prog 219 0 [SL (cI .u32) a,I i] [] (NI .u32 r) []:=
 ay (enc:=fun r=>NI .u32 r) (aU:=fun r=>[]) 10 (.op 10004 (.ln (cI .u32) a) (.br 100000008 (.op 20004 (.el (cI .u32) a .dn) (.ret (nth a i.toNat))) (.ret 0))) Tryz.func219 (by kernel_rfl) (by kernel_rfl) (by kernel_rfl)
def Ls (a:Int) (b:Int) (c:Int):Option (Int×Int):=
 (kR [b,c]).bind fun x0=>
 bif inK .u64 a then
 (kR [IntKind.wrap .u32 (IntKind.wrap .u64 (a-x0))]).bind fun x1=>
 (uK (IntKind.wrap .u64 (x1+x0))).bind fun x2=>
 some (IntKind.wrap .u32 (IntKind.wrap .u64 (a-x0)),x2.1)
 else none
theorem Xg (a:Int) (b:Int) (c:Int):∀r,Ls a b c=some r→au Tryz.prog 253 0 [NI .u32 a,NI .u32 b,NI .u32 c] [] (.tup [NI .u32 r.1,NI .u32 r.2]) []:=
 ay (enc:=fun r=>.tup [NI .u32 r.1,NI .u32 r.2]) (aU:=fun r=>[]) 10 (.call [] [] (yB [b,c]) (.yes fun _=>⟨rfl,trivial⟩) fun x0=>.op 20008 .wr (.call [] [] (yB [IntKind.wrap .u32 (IntKind.wrap .u64 (a-x0))]) (.yes fun _=>⟨rfl,trivial⟩) fun x1=>.call [] [] (Du (IntKind.wrap .u64 (x1+x0))) .no fun x2=>.ret (IntKind.wrap .u32 (IntKind.wrap .u64 (a-x0)),x2.1))) Tryz.func253 (by kernel_rfl) (by kernel_rfl) (by kernel_rfl)
def EP (a:List Int) (b:List Int) (x1:Int) (borrow:Int) (i:Nat) (out:List Int):St:=⟨40,0,[(0,SL (cI .u32) a),(1,SL (cI .u32) b),(7,.msl 10 0 none (some x1.toNat)),(8,NI .u32 borrow),(18,I x1),(19,I ((i:Nat):Int))],[(10,ROW 1 (cI .u32) out 0)]⟩
def FB (a:List Int) (b:List Int) (x1:Int) (out:List Int):St:=⟨40,0,[(7,.msl 10 0 none (some x1.toNat))],[(10,ROW 1 (cI .u32) out 0)]⟩
def rU (a:List Int) (b:List Int) (x1:Int) (borrow:Int) (i:Nat) (out:List Int):Option ((Int×Nat×List Int)⊕(List Int)):=
 bif decide (((i:Nat):Int)<x1) then
 bif decide (i<a.length) then
 (JG b ((i:Nat):Int)).bind fun x2=>
 (Ls (nth a i) x2 borrow).bind fun x3=>
 bif decide (i<out.length) then
 bif decide (i<out.length) then
 bif inK .i64 (((i:Nat):Int)+1) then
 some (.inl (x3.2,i+1,out.set i x3.1))
 else none
 else none
 else none
 else none
 else
 some (.inr out)
theorem Wj (a:List Int) (b:List Int) (x1:Int):∀σ:Int×Nat×List Int,aN Tryz.prog (nav [1,1,1,1,1,0,1,0,0] (ah Tryz.f216)) (fun (σ:Int×Nat×List Int)=>EP a b x1 σ.1 σ.2.1 σ.2.2) (fun (_:List Int)=>(.exit 0)) (fun (y:List Int)=>FB a b x1 y) σ (rU a b x1 σ.1 σ.2.1 σ.2.2)
 | (borrow,i,out)=>aH 1010 (.br 100000020 (.op 90008 (.el (cI .u32) a (.up i)) (.call [] [] (MN b ((i:Nat):Int)) .no fun x2=>.call [] [] (Xg (nth a i) x2 borrow) .no fun x3=>.op 90028 (.el (cI .u32) out (.up i)) (.op 90030 (.st (cI .u32) out x3.1) (.ps 1000003 [.k [0,1,7,8,18,19] [10]] (.ret (.inl (x3.2,i+1,out.set i x3.1))))))) (.ps 1000003 [.k [7] [10]] (.ret (.inr out)))) (by kernel_rfl)
def IG (a:List Int) (b:List Int) (x1:Int) (borrow:Int) (i:Nat) (out:List Int):Option (List Int):=aK (fun (σ:Int×Nat×List Int)=>rU a b x1 σ.1 σ.2.1 σ.2.2) FU (borrow,i,out)
theorem Wx (a:List Int) (b:List Int) (x1:Int) (borrow:Int) (i:Nat) (out:List Int):∀y:List Int,IG a b x1 borrow i out=some y→Runs Tryz.prog (.loop (nav [1,1,1,1,1,0,1,0,0] (ah Tryz.f216))) (EP a b x1 borrow i out) ((.exit 0)) ((fun (y:List Int)=>FB a b x1 y) y):=
 aX (head:=fun (σ:Int×Nat×List Int)=>EP a b x1 σ.1 σ.2.1 σ.2.2) (eo:=fun (_:List Int)=>(.exit 0)) (so:=fun (y:List Int)=>FB a b x1 y) (Wj a b x1) (fun _ h=>by cases h) FU (borrow,i,out)
def Ii (a:List Int) (b:List Int):Option (List Int×Bool):=
 (JZ a b).bind fun x0=>
 bif decide (x0<0) then
 some ([],false)
 else
 (oK a).bind fun x1=>
 bif decide (0≤x1) then
 bif decide (x1.toNat≤2147483648) then
 (IG a b x1 0 0 (List.replicate x1.toNat 0)).bind fun x2=>
 (fQ x2).bind fun x3=>
 some (x3,true)
 else none
 else none
theorem JK (a:List Int) (b:List Int):∀r,Ii a b=some r→au Tryz.prog 216 0 [SL (cI .u32) a,SL (cI .u32) b] [] (.tup [SL (cI .u32) r.1,B r.2]) []:=
 ay (enc:=fun r=>.tup [SL (cI .u32) r.1,B r.2]) (aU:=fun r=>[]) 10 (.call [] [] (P8 a b) .no fun x0=>.br 100000013 (.ps 1000003 [.n 4] (.ret ([],false))) (.call [] [] (mM a) .no fun x1=>.op 40002 (.mk (cI .u32) 0 .dn) (.ps 1000001 [.k [0,1,7,8,18,19] [10]] (.lp1 0 (Wx a b x1 0 0 (List.replicate x1.toNat 0)) fun x2=>.call [] [] (fG x2) .no fun x3=>.ret (x3,true))))) Tryz.func216 (by kernel_rfl) (by kernel_rfl) (by kernel_rfl)
def uU (rest:List Int) (b:List Int) (q:Int):St:=⟨26,0,[(0,SL (cI .u32) rest),(1,SL (cI .u32) b),(6,NI .u32 q)],[]⟩
def uy (rest:List Int) (b:List Int) (afs:List Int) (q:Int):St:=⟨26,0,[(0,SL (cI .u32) afs),(6,NI .u32 q)],[]⟩
def kQ (rest:List Int) (b:List Int) (q:Int):Option (Int⊕(List Int×Int)):=
 (Eh b q 0).bind fun x1=>
 (Ii rest x1).bind fun x2=>
 bif x2.2 then
 some (.inr (x2.1,q))
 else
 some (.inl (IntKind.wrap .u32 (q-1)))
theorem Nc (rest:List Int) (b:List Int):∀σ:Int,aN Tryz.prog (nav [1,0,1,1,0,0,0] (ah Tryz.f248)) (fun (σ:Int)=>uU rest b σ) (fun (_:List Int×Int)=>(.exit 0)) (fun (y:List Int×Int)=>uy rest b y.1 y.2) σ (kQ rest b σ)
 | q=>aH 1010 (.call [] [] (LU b q 0) .no fun x1=>.call [] [] (JK rest x1) .no fun x2=>.br 100000020 (.ps 1000003 [.k [0,6] []] (.ret (.inr (x2.1,q)))) (.ps 1000003 [.k [0,1,6] []] (.ret (.inl (IntKind.wrap .u32 (q-1)))))) (by kernel_rfl)
def vC (rest:List Int) (b:List Int) (q:Int):Option (List Int×Int):=aK (fun (σ:Int)=>kQ rest b σ) FU q
theorem Me (rest:List Int) (b:List Int) (q:Int):∀y:List Int×Int,vC rest b q=some y→Runs Tryz.prog (.loop (nav [1,0,1,1,0,0,0] (ah Tryz.f248))) (uU rest b q) ((.exit 0)) ((fun (y:List Int×Int)=>uy rest b y.1 y.2) y):=
 aX (head:=fun (σ:Int)=>uU rest b σ) (eo:=fun (_:List Int×Int)=>(.exit 0)) (so:=fun (y:List Int×Int)=>uy rest b y.1 y.2) (Nc rest b) (fun _ h=>by cases h) FU q
def wG (rest:List Int) (b:List Int):Option (Int×List Int):=
 (nR rest b).bind fun x0=>
 (vC rest b x0).bind fun x1=>
 some (x1.2,x1.1)
theorem QL (rest:List Int) (b:List Int):∀r,wG rest b=some r→au Tryz.prog 248 0 [SL (cI .u32) rest,SL (cI .u32) b] [] (.tup [NI .u32 r.1,SL (cI .u32) r.2]) []:=
 ay (enc:=fun r=>.tup [NI .u32 r.1,SL (cI .u32) r.2]) (aU:=fun r=>[]) 10 (.call [] [] (RH rest b) .no fun x0=>.ps 1000001 [.k [0,1,6] []] (.lp1 0 (Me rest b x0) fun x1=>.ret (x1.2,x1.1))) Tryz.func248 (by kernel_rfl) (by kernel_rfl) (by kernel_rfl)
def zO (x1:Int) (x2:List Int) (x3:List Int) (i:List Int) (i1:Int) (o:List Int):St:=⟨74,0,[(0,SL (cI .u32) x2),(1,SL (cI .u32) x3),(4,.msl 10 0 none (some x2.length)),(5,SL (cI .u32) i),(7,I (32-x1)),(8,I i1)],[(10,ROW 1 (cI .u32) o 0)]⟩
def zx (x1:Int) (x2:List Int) (x3:List Int) (i:List Int) (o:List Int):St:=⟨74,0,[(4,.msl 10 0 none (some x2.length)),(5,SL (cI .u32) i),(7,I (32-x1))],[(10,ROW 1 (cI .u32) o 0)]⟩
def nI (x1:Int) (x2:List Int) (x3:List Int) (i:List Int) (i1:Int) (o:List Int):Option ((List Int×Int×List Int)⊕(List Int×List Int)):=
 bif decide (i1≥0) then
 bif decide (0≤i1) then
 bif decide (i1.toNat<x2.length) then
 bif decide (1+i.length≤2147483648) then
 (fQ ([nth x2 i1.toNat]++i)).bind fun x4=>
 (wG x4 x3).bind fun x5=>
 bif decide (0≤i1) then
 bif decide (i1.toNat<o.length) then
 bif decide (i1.toNat<o.length) then
 bif inK .i64 (i1-1) then
 some (.inl (x5.2,i1-1,o.set i1.toNat x5.1))
 else none
 else none
 else none
 else none
 else none
 else none
 else none
 else
 some (.inr (i,o))
theorem Ro (x1:Int) (x2:List Int) (x3:List Int):∀σ:List Int×Int×List Int,aN Tryz.prog (nav [1,1,1,1,1,1,0,1,0,0] (ah Tryz.f214)) (fun (σ:List Int×Int×List Int)=>zO x1 x2 x3 σ.1 σ.2.1 σ.2.2) (fun (_:List Int×List Int)=>(.exit 0)) (fun (y:List Int×List Int)=>zx x1 x2 x3 y.1 y.2) σ (nI x1 x2 x3 σ.1 σ.2.1 σ.2.2)
 | (i,i1,o)=>aH 1010 (.br 100000037 (.op 100008 (.el (cI .u32) x2 .dn) (.op 100016 (.ap (cI .u32) [nth x2 i1.toNat] i 1 fun _=>⟨rfl,rfl⟩) (.call [] [] (fG ([nth x2 i1.toNat]++i)) .no fun x4=>.call [] [] (QL x4 x3) .no fun x5=>.op 100030 (.el (cI .u32) o .dn) (.op 100032 (.st (cI .u32) o x5.1) (.ps 1000003 [.k [0,1,4,5,7,8] [10]] (.ret (.inl (x5.2,i1-1,o.set i1.toNat x5.1)))))))) (.ps 1000003 [.k [4,5,7] [10]] (.ret (.inr (i,o))))) (by kernel_rfl)
def vP (x1:Int) (x2:List Int) (x3:List Int) (i:List Int) (i1:Int) (o:List Int):Option (List Int×List Int):=aK (fun (σ:List Int×Int×List Int)=>nI x1 x2 x3 σ.1 σ.2.1 σ.2.2) FU (i,i1,o)
theorem Ru (x1:Int) (x2:List Int) (x3:List Int) (i:List Int) (i1:Int) (o:List Int):∀y:List Int×List Int,vP x1 x2 x3 i i1 o=some y→Runs Tryz.prog (.loop (nav [1,1,1,1,1,1,0,1,0,0] (ah Tryz.f214))) (zO x1 x2 x3 i i1 o) ((.exit 0)) ((fun (y:List Int×List Int)=>zx x1 x2 x3 y.1 y.2) y):=
 aX (head:=fun (σ:List Int×Int×List Int)=>zO x1 x2 x3 σ.1 σ.2.1 σ.2.2) (eo:=fun (_:List Int×List Int)=>(.exit 0)) (so:=fun (y:List Int×List Int)=>zx x1 x2 x3 y.1 y.2) (Ro x1 x2 x3) (fun _ h=>by cases h) FU (i,i1,o)
def Ai (n:Int):Option (List Int):=
 (fQ [IntKind.wrap .u32 n,IntKind.wrap .u32 (lV .u64 n 32)]).bind fun x0=>
 some x0
theorem tN (n:Int):∀r,Ai n=some r→au Tryz.prog 136 0 [NI .u64 n] [] (SL (cI .u32) r) []:=
 ay (enc:=fun r=>SL (cI .u32) r) (aU:=fun r=>[]) 10 (.op 10002 .wr (.op 10008 .wr (.call [] [] (fG [IntKind.wrap .u32 n,IntKind.wrap .u32 (lV .u64 n 32)]) .no fun x0=>.ret x0))) Tryz.func136 (by kernel_rfl) (by kernel_rfl) (by kernel_rfl)
def qV (iQ:Nat) (kZ:Nat) (bV:Nat) (a:List Int) (w:Int) (c1:Int) (i:Nat) (out:List Int):St:=⟨37,1,[(0,.msl 0 iQ (some kZ) (some bV)),(1,SL (cI .u32) a),(2,NI .u32 w),(3,NI .u32 c1),(10,SL (cI .u32) a),(11,I ((a.length:Nat):Int)),(12,I ((i:Nat):Int))],[(0,ROW 1 (cI .u32) out 0)]⟩
def sQ (iQ:Nat) (kZ:Nat) (bV:Nat) (a:List Int) (w:Int) (c1:Int) (out:List Int):St:=⟨37,1,[(0,.msl 0 iQ (some kZ) (some bV)),(1,SL (cI .u32) a),(3,NI .u32 c1)],[(0,ROW 1 (cI .u32) out 0)]⟩
def eY (iQ:Nat) (kZ:Nat) (bV:Nat) (a:List Int) (w:Int) (c1:Int) (i:Nat) (out:List Int):Option ((Int×Nat×List Int)⊕(Int×List Int)):=
 bif decide (((i:Nat):Int)<((a.length:Nat):Int)) then
 bif decide (i<a.length) then
 bif decide (i<kZ) then
 bif decide (plus iQ i<out.length) then
 (Ho (nth a i) w (nth out (plus iQ i)) c1).bind fun x0=>
 bif decide (i<kZ) then
 bif decide (plus iQ i<out.length) then
 bif inK .i64 (((i:Nat):Int)+1) then
 some (.inl (x0.1,i+1,out.set (plus iQ i) x0.2))
 else none
 else none
 else none
 else none
 else none
 else none
 else
 some (.inr (c1,out))
theorem J8 (iQ:Nat) (kZ:Nat) (bV:Nat) (a:List Int) (w:Int):∀σ:Int×Nat×List Int,aN Tryz.prog (nav [0,1,0,0] (ah Tryz.f165)) (fun (σ:Int×Nat×List Int)=>qV iQ kZ bV a w σ.1 σ.2.1 σ.2.2) (fun (_:Int×List Int)=>(.exit 0)) (fun (y:Int×List Int)=>sQ iQ kZ bV a w y.1 y.2) σ (eY iQ kZ bV a w σ.1 σ.2.1 σ.2.2)
 | (c1,i,out)=>aH 1010 (.br 100000013 (.op 20002 (.el (cI .u32) a (.up i)) (.op 30012 (.el (cI .u32) out (.up i)) (.op 30014 (.ld (cI .u32) out) (.call [] [] (NH (nth a i) w (nth out (plus iQ i)) c1) .no fun x0=>.op 30028 (.el (cI .u32) out (.up i)) (.op 30030 (.st (cI .u32) out x0.2) (.ps 1000003 [.k [0,1,2,3,10,11,12] [0]] (.ret (.inl (x0.1,i+1,out.set (plus iQ i) x0.2))))))))) (.ps 1000003 [.k [0,1,3] [0]] (.ret (.inr (c1,out))))) (by kernel_rfl)
def Ak (iQ:Nat) (kZ:Nat) (bV:Nat) (a:List Int) (w:Int) (c1:Int) (i:Nat) (out:List Int):Option (Int×List Int):=aK (fun (σ:Int×Nat×List Int)=>eY iQ kZ bV a w σ.1 σ.2.1 σ.2.2) FU (c1,i,out)
theorem Lh (iQ:Nat) (kZ:Nat) (bV:Nat) (a:List Int) (w:Int) (c1:Int) (i:Nat) (out:List Int):∀y:Int×List Int,Ak iQ kZ bV a w c1 i out=some y→Runs Tryz.prog (.loop (nav [0,1,0,0] (ah Tryz.f165))) (qV iQ kZ bV a w c1 i out) ((.exit 0)) ((fun (y:Int×List Int)=>sQ iQ kZ bV a w y.1 y.2) y):=
 aX (head:=fun (σ:Int×Nat×List Int)=>qV iQ kZ bV a w σ.1 σ.2.1 σ.2.2) (eo:=fun (_:Int×List Int)=>(.exit 0)) (so:=fun (y:Int×List Int)=>sQ iQ kZ bV a w y.1 y.2) (J8 iQ kZ bV a w) (fun _ h=>by cases h) FU (c1,i,out)
def yR (o0:List Int) (iQ:Nat) (kZ:Nat) (bV:Nat) (a:List Int) (w:Int) (c:Int):Option (List Int):=
 (Ak iQ kZ bV a w c 0 o0).bind fun x0=>
 bif decide (a.length<kZ) then
 bif decide (plus iQ a.length<x0.2.length) then
 some (x0.2.set (plus iQ a.length) x0.1)
 else none
 else none
theorem OM (o0:List Int) (iQ:Nat) (kZ:Nat) (bV:Nat) (a:List Int) (w:Int) (c:Int):∀r,yR o0 iQ kZ bV a w c=some r→au Tryz.prog 165 1 [.msl 0 iQ (some kZ) (some bV),SL (cI .u32) a,NI .u32 w,NI .u32 c] [(0,ROW 1 (cI .u32) o0 0)] (.tup []) [(0,ROW 1 (cI .u32) r 0)]:=
 ay (enc:=fun r=>.tup []) (aU:=fun r=>[(0,ROW 1 (cI .u32) r 0)]) 10 (.op 2 (.ln (cI .u32) a) (.ps 1000001 [.k [0,1,2,3,10,11,12] [0]] (.lp1 0 (Lh iQ kZ bV a w c 0 o0) fun x0=>.op 50004 (.ln (cI .u32) a) (.op 50008 (.el (cI .u32) x0.2 (.up a.length)) (.op 50010 (.st (cI .u32) x0.2 x0.1) (.ret (x0.2.set (plus iQ a.length) x0.1))))))) Tryz.func165 (by kernel_rfl) (by kernel_rfl) (by kernel_rfl)
def A8 (a:List Int) (b:List Int) (i:Nat) (out:List Int):St:=⟨39,0,[(0,SL (cI .u32) a),(5,.msl 10 0 none (some ((a.length+b.length)+1))),(16,SL (cI .u32) b),(17,I ((b.length:Nat):Int)),(18,I ((i:Nat):Int))],[(10,ROW 1 (cI .u32) out 0)]⟩
def BA (a:List Int) (b:List Int) (out:List Int):St:=⟨39,0,[(5,.msl 10 0 none (some ((a.length+b.length)+1)))],[(10,ROW 1 (cI .u32) out 0)]⟩
def nK (a:List Int) (b:List Int) (i:Nat) (out:List Int):Option ((Nat×List Int)⊕(List Int)):=
 bif decide (((i:Nat):Int)<((b.length:Nat):Int)) then
 bif decide (i<b.length) then
 bif inK .i64 (((i:Nat):Int)+((a.length:Nat):Int)) then
 bif inK .i64 ((((i:Nat):Int)+((a.length:Nat):Int))+1) then
 bif decide (i≤(i+a.length)+1) then
 bif decide (0+((i+a.length)+1)≤(out.map (cI .u32)).length) then
 bif decide ((i+a.length)+1≤(a.length+b.length)+1) then
 bif (decide ((i+a.length)+1≤(i+a.length)+1)&&decide ((i+a.length)+1≤(a.length+b.length)+1)) then
 (yR out i (((i+a.length)+1)-i) (((i+a.length)+1)-i) a (nth b i) 0).bind fun x0=>
 bif inK .i64 (((i:Nat):Int)+1) then
 some (.inl (i+1,x0))
 else none
 else none
 else none
 else none
 else none
 else none
 else none
 else none
 else
 some (.inr out)
theorem RY (a:List Int) (b:List Int):∀σ:Nat×List Int,aN Tryz.prog (nav [1,1,0,1,0,0] (ah Tryz.f116)) (fun (σ:Nat×List Int)=>A8 a b σ.1 σ.2) (fun (_:List Int)=>(.exit 0)) (fun (y:List Int)=>BA a b y) σ (nK a b σ.1 σ.2)
 | (i,out)=>aH 1010 (.br 100000019 (.op 40002 (.el (cI .u32) b (.up i)) (.op 50004 (.ln (cI .u32) a) (.op 60008 (.sb (.up i) (.up ((i+a.length)+1)) (.up ((i+a.length)+1))) (.call [10] [] (OM out i (((i+a.length)+1)-i) (((i+a.length)+1)-i) a (nth b i) 0) .no fun x0=>.ps 1000003 [.k [0,5,16,17,18] [10]] (.ret (.inl (i+1,x0))))))) (.ps 1000003 [.k [5] [10]] (.ret (.inr out)))) (by kernel_rfl)
def Dc (a:List Int) (b:List Int) (i:Nat) (out:List Int):Option (List Int):=aK (fun (σ:Nat×List Int)=>nK a b σ.1 σ.2) FU (i,out)
theorem SN (a:List Int) (b:List Int) (i:Nat) (out:List Int):∀y:List Int,Dc a b i out=some y→Runs Tryz.prog (.loop (nav [1,1,0,1,0,0] (ah Tryz.f116))) (A8 a b i out) ((.exit 0)) ((fun (y:List Int)=>BA a b y) y):=
 aX (head:=fun (σ:Nat×List Int)=>A8 a b σ.1 σ.2) (eo:=fun (_:List Int)=>(.exit 0)) (so:=fun (y:List Int)=>BA a b y) (RY a b) (fun _ h=>by cases h) FU (i,out)
def lZ (a:List Int) (b:List Int):Option (List Int):=
 bif inK .i64 (((a.length:Nat):Int)+((b.length:Nat):Int)) then
 bif inK .i64 ((((a.length:Nat):Int)+((b.length:Nat):Int))+1) then
 bif decide ((a.length+b.length)+1≤2147483648) then
 (Dc a b 0 (List.replicate ((a.length+b.length)+1) 0)).bind fun x0=>
 (fQ x0).bind fun x1=>
 some x1
 else none
 else none
 else none
theorem og (a:List Int) (b:List Int):∀r,lZ a b=some r→au Tryz.prog 116 0 [SL (cI .u32) a,SL (cI .u32) b] [] (SL (cI .u32) r) []:=
 ay (enc:=fun r=>SL (cI .u32) r) (aU:=fun r=>[]) 10 (.op 10002 (.ln (cI .u32) a) (.op 10006 (.ln (cI .u32) b) (.op 10012 (.mk (cI .u32) 0 (.up ((a.length+b.length)+1))) (.op 20002 (.ln (cI .u32) b) (.ps 1000001 [.k [0,5,16,17,18] [10]] (.lp1 0 (SN a b 0 (List.replicate ((a.length+b.length)+1) 0)) fun x0=>.call [] [] (fG x0) .no fun x1=>.ret x1)))))) Tryz.func116 (by kernel_rfl) (by kernel_rfl) (by kernel_rfl)
def zQ (a:List Int) (n:Int) (x0:Int) (out:List Int) (i:Nat):St:=⟨40,0,[(0,SL (cI .u32) a),(6,I x0),(8,SL (cI .u32) out),(30,I (mnI n 1)),(31,I ((i:Nat):Int))],[]⟩
def zC (a:List Int) (n:Int) (x0:Int) (out:List Int):St:=⟨40,0,[(8,SL (cI .u32) out)],[]⟩
def Gn (a:List Int) (n:Int) (x0:Int) (out:List Int) (i:Nat):Option ((List Int×Nat)⊕(List Int)):=
 bif decide (((i:Nat):Int)<(mnI n 1)) then
 bif decide (0≤x0) then
 bif decide (0≤x0.toNat) then
 bif decide (x0.toNat≤a.length) then
 (lZ out (a.take x0.toNat)).bind fun x3=>
 bif inK .i64 (((i:Nat):Int)+1) then
 some (.inl (x3,i+1))
 else none
 else none
 else none
 else none
 else
 some (.inr out)
theorem QC (a:List Int) (n:Int) (x0:Int):∀σ:List Int×Nat,aN Tryz.prog (nav [1,1,1,1,1,1,0,1,0,0] (ah Tryz.f249)) (fun (σ:List Int×Nat)=>zQ a n x0 σ.1 σ.2) (fun (_:List Int)=>(.exit 0)) (fun (y:List Int)=>zC a n x0 y) σ (Gn a n x0 σ.1 σ.2)
 | (out,i)=>aH 1010 (.br 100000032 (.op 100006 (.sl (cI .u32) a 1 (fun _=>rfl) (.up 0) .dn) (.call [] [] (og out (a.take x0.toNat)) .no fun x3=>.ps 1000003 [.k [0,6,8,30,31] []] (.ret (.inl (x3,i+1))))) (.ps 1000003 [.k [8] []] (.ret (.inr out)))) (by kernel_rfl)
def Gx (a:List Int) (n:Int) (x0:Int) (out:List Int) (i:Nat):Option (List Int):=aK (fun (σ:List Int×Nat)=>Gn a n x0 σ.1 σ.2) FU (out,i)
theorem Hw (a:List Int) (n:Int) (x0:Int) (out:List Int) (i:Nat):∀y:List Int,Gx a n x0 out i=some y→Runs Tryz.prog (.loop (nav [1,1,1,1,1,1,0,1,0,0] (ah Tryz.f249))) (zQ a n x0 out i) ((.exit 0)) ((fun (y:List Int)=>zC a n x0 y) y):=
 aX (head:=fun (σ:List Int×Nat)=>zQ a n x0 σ.1 σ.2) (eo:=fun (_:List Int)=>(.exit 0)) (so:=fun (y:List Int)=>zC a n x0 y) (QC a n x0) (fun _ h=>by cases h) FU (out,i)
def tZ (a:List Int) (n:Int) (x0:Int) (out:List Int) (i:Nat):St:=⟨40,0,[(0,SL (cI .u32) a),(6,I x0),(8,SL (cI .u32) out),(30,I n),(31,I ((i:Nat):Int))],[]⟩
def um (a:List Int) (n:Int) (x0:Int) (out:List Int):St:=⟨40,0,[(8,SL (cI .u32) out)],[]⟩
def kN (a:List Int) (n:Int) (x0:Int) (out:List Int) (i:Nat):Option ((List Int×Nat)⊕(List Int)):=
 bif decide (((i:Nat):Int)<n) then
 bif decide (0≤x0) then
 bif decide (0≤x0.toNat) then
 bif decide (x0.toNat≤a.length) then
 (lZ out (a.take x0.toNat)).bind fun x3=>
 bif inK .i64 (((i:Nat):Int)+1) then
 some (.inl (x3,i+1))
 else none
 else none
 else none
 else none
 else
 some (.inr out)
theorem Ns (a:List Int) (n:Int) (x0:Int):∀σ:List Int×Nat,aN Tryz.prog (nav [1,1,1,1,1,1,0,1,0,0] (ah Tryz.f249)) (fun (σ:List Int×Nat)=>tZ a n x0 σ.1 σ.2) (fun (_:List Int)=>(.exit 0)) (fun (y:List Int)=>um a n x0 y) σ (kN a n x0 σ.1 σ.2)
 | (out,i)=>aH 1010 (.br 100000032 (.op 100006 (.sl (cI .u32) a 1 (fun _=>rfl) (.up 0) .dn) (.call [] [] (og out (a.take x0.toNat)) .no fun x3=>.ps 1000003 [.k [0,6,8,30,31] []] (.ret (.inl (x3,i+1))))) (.ps 1000003 [.k [8] []] (.ret (.inr out)))) (by kernel_rfl)
def oJ (a:List Int) (n:Int) (x0:Int) (out:List Int) (i:Nat):Option (List Int):=aK (fun (σ:List Int×Nat)=>kN a n x0 σ.1 σ.2) FU (out,i)
theorem Ew (a:List Int) (n:Int) (x0:Int) (out:List Int) (i:Nat):∀y:List Int,oJ a n x0 out i=some y→Runs Tryz.prog (.loop (nav [1,1,1,1,1,1,0,1,0,0] (ah Tryz.f249))) (tZ a n x0 out i) ((.exit 0)) ((fun (y:List Int)=>um a n x0 y) y):=
 aX (head:=fun (σ:List Int×Nat)=>tZ a n x0 σ.1 σ.2) (eo:=fun (_:List Int)=>(.exit 0)) (so:=fun (y:List Int)=>um a n x0 y) (Ns a n x0) (fun _ h=>by cases h) FU (out,i)
def H8 (a:List Int) (n:Int):Option (List Int×Bool):=
 (oK a).bind fun x0=>
 (nG a).bind fun x1=>
 bif decide (n<0) then
 some ([],false)
 else
 bif decide (x1>1) then
 bif decide (0≤4096) then
 bif decide (0<x0) then
 bif decide (4096≤Go.Ab.hi .i64) then
 bif decide (n>(4096/x0)) then
 some ([],false)
 else
 bif !(decide (x1>1)) then
 (Ai 1).bind fun x2=>
 (Gx a n x0 x2 0).bind fun x3=>
 some (x3,true)
 else
 (Ai 1).bind fun x2=>
 (oJ a n x0 x2 0).bind fun x3=>
 some (x3,true)
 else none
 else none
 else none
 else
 bif !(decide (x1>1)) then
 (Ai 1).bind fun x2=>
 (Gx a n x0 x2 0).bind fun x3=>
 some (x3,true)
 else
 (Ai 1).bind fun x2=>
 (oJ a n x0 x2 0).bind fun x3=>
 some (x3,true)
theorem Vo (a:List Int) (n:Int):∀r,H8 a n=some r→au Tryz.prog 249 0 [SL (cI .u32) a,I n] [] (.tup [SL (cI .u32) r.1,B r.2]) []:=
 ay (enc:=fun r=>.tup [SL (cI .u32) r.1,B r.2]) (aU:=fun r=>[]) 10 (.call [] [] (mM a) .no fun x0=>.call [] [] (Gs a) .no fun x1=>.br 30006 (.ps 1000003 [.n 4] (.ret ([],false))) (.br 30010 (.br 100000024 (.ps 1000003 [.n 4] (.ret ([],false))) (.br 100000026 (.call [] [] (tN 1) .no fun x2=>.ps 1000001 [.k [0,6,8,30,31] []] (.lp1 0 (Hw a n x0 x2 0) fun x3=>.ret (x3,true))) (.call [] [] (tN 1) .no fun x2=>.ps 1000001 [.k [0,6,8,30,31] []] (.lp1 0 (Ew a n x0 x2 0) fun x3=>.ret (x3,true))))) (.br 100000026 (.call [] [] (tN 1) .no fun x2=>.ps 1000001 [.k [0,6,8,30,31] []] (.lp1 0 (Hw a n x0 x2 0) fun x3=>.ret (x3,true))) (.call [] [] (tN 1) .no fun x2=>.ps 1000001 [.k [0,6,8,30,31] []] (.lp1 0 (Ew a n x0 x2 0) fun x3=>.ret (x3,true)))))) Tryz.func249 (by kernel_rfl) (by kernel_rfl) (by kernel_rfl)
def uX (a:List Int) (d:Int) (r:Int) (i:Int) (q:List Int):St:=⟨37,0,[(0,SL (cI .u32) a),(1,NI .u32 d),(4,.msl 10 0 none (some a.length)),(5,NI .u32 r),(7,I i)],[(10,ROW 1 (cI .u32) q 0)]⟩
def uQ (a:List Int) (d:Int) (r:Int) (q:List Int):St:=⟨37,0,[(4,.msl 10 0 none (some a.length)),(5,NI .u32 r)],[(10,ROW 1 (cI .u32) q 0)]⟩
def kH (a:List Int) (d:Int) (r:Int) (i:Int) (q:List Int):Option ((Int×Int×List Int)⊕(Int×List Int)):=
 bif decide (i≥0) then
 bif decide (0≤i) then
 bif decide (i.toNat<a.length) then
 (rO r (nth a i.toNat) d).bind fun x0=>
 bif decide (0≤i) then
 bif decide (i.toNat<q.length) then
 bif decide (i.toNat<q.length) then
 bif inK .i64 (i-1) then
 some (.inl (x0.2.1,i-1,q.set i.toNat x0.1))
 else none
 else none
 else none
 else none
 else none
 else none
 else
 some (.inr (r,q))
theorem Ny (a:List Int) (d:Int):∀σ:Int×Int×List Int,aN Tryz.prog (nav [1,1,1,0,1,0,0] (ah Tryz.f250)) (fun (σ:Int×Int×List Int)=>uX a d σ.1 σ.2.1 σ.2.2) (fun (_:Int×List Int)=>(.exit 0)) (fun (y:Int×List Int)=>uQ a d y.1 y.2) σ (kH a d σ.1 σ.2.1 σ.2.2)
 | (r,i,q)=>aH 1010 (.br 100000017 (.op 70010 (.el (cI .u32) a .dn) (.call [] [] (Hl r (nth a i.toNat) d) .no fun x0=>.op 70026 (.el (cI .u32) q .dn) (.op 70028 (.st (cI .u32) q x0.1) (.ps 1000003 [.k [0,1,4,5,7] [10]] (.ret (.inl (x0.2.1,i-1,q.set i.toNat x0.1))))))) (.ps 1000003 [.k [4,5] [10]] (.ret (.inr (r,q))))) (by kernel_rfl)
def vH (a:List Int) (d:Int) (r:Int) (i:Int) (q:List Int):Option (Int×List Int):=aK (fun (σ:Int×Int×List Int)=>kH a d σ.1 σ.2.1 σ.2.2) FU (r,i,q)
theorem MQ (a:List Int) (d:Int) (r:Int) (i:Int) (q:List Int):∀y:Int×List Int,vH a d r i q=some y→Runs Tryz.prog (.loop (nav [1,1,1,0,1,0,0] (ah Tryz.f250))) (uX a d r i q) ((.exit 0)) ((fun (y:Int×List Int)=>uQ a d y.1 y.2) y):=
 aX (head:=fun (σ:Int×Int×List Int)=>uX a d σ.1 σ.2.1 σ.2.2) (eo:=fun (_:Int×List Int)=>(.exit 0)) (so:=fun (y:Int×List Int)=>uQ a d y.1 y.2) (Ny a d) (fun _ h=>by cases h) FU (r,i,q)
def BZ (a:List Int) (d:Int):Option (List Int×Int×Bool):=
 bif d==0 then
 some ([],0,false)
 else
 bif decide (a.length≤2147483648) then
 bif inK .i64 (((a.length:Nat):Int)-1) then
 (vH a d 0 (((a.length:Nat):Int)-1) (List.replicate a.length 0)).bind fun x0=>
 (fQ x0.2).bind fun x1=>
 some (x1,x0.1,true)
 else none
 else none
theorem PX (a:List Int) (d:Int):∀r,BZ a d=some r→au Tryz.prog 250 0 [SL (cI .u32) a,NI .u32 d] [] (.tup [SL (cI .u32) r.1,NI .u32 r.2.1,B r.2.2]) []:=
 ay (enc:=fun r=>.tup [SL (cI .u32) r.1,NI .u32 r.2.1,B r.2.2]) (aU:=fun r=>[]) 10 (.br 100000009 (.ps 1000003 [.n 4] (.ret ([],0,false))) (.op 30002 (.ln (cI .u32) a) (.op 30004 (.mk (cI .u32) 0 (.up a.length)) (.op 40002 (.ln (cI .u32) a) (.ps 1000001 [.k [0,1,4,5,7] [10]] (.lp1 0 (MQ a d 0 (((a.length:Nat):Int)-1) (List.replicate a.length 0)) fun x0=>.call [] [] (fG x0.2) .no fun x1=>.ret (x1,x0.1,true))))))) Tryz.func250 (by kernel_rfl) (by kernel_rfl) (by kernel_rfl)
def qF (tA:List Int) (a:List Int):Option (List Int×List Int×Bool):=
 (fQ a).bind fun x0=>
 bif ((x0.length:Nat):Int)==0 then
 some ([],[],false)
 else
 bif inK .i64 (((x0.length:Nat):Int)-1) then
 bif decide (0≤((x0.length:Nat):Int)-1) then
 bif decide ((((x0.length:Nat):Int)-1).toNat<x0.length) then
 (qL (nth x0 ((((x0.length:Nat):Int)-1).toNat))).bind fun x1=>
 bif inK .i64 (32-x1) then
 (wB tA (32-x1)).bind fun x2=>
 (wB x0 (32-x1)).bind fun x3=>
 bif decide (x2.length≤2147483648) then
 bif inK .i64 (((x2.length:Nat):Int)-1) then
 (vP x1 x2 x3 [] (((x2.length:Nat):Int)-1) (List.replicate x2.length 0)).bind fun x4=>
 (H8 [2] (32-x1)).bind fun x5=>
 bif decide (0<x5.1.length) then
 (BZ x4.1 (nth x5.1 0)).bind fun x6=>
 (fQ x4.2).bind fun x7=>
 some (x7,x6.1,true)
 else none
 else none
 else none
 else none
 else none
 else none
 else none
theorem EL (tA:List Int) (a:List Int):∀r,qF tA a=some r→au Tryz.prog 214 0 [SL (cI .u32) tA,SL (cI .u32) a] [] (.tup [SL (cI .u32) r.1,SL (cI .u32) r.2.1,B r.2.2]) []:=
 ay (enc:=fun r=>.tup [SL (cI .u32) r.1,SL (cI .u32) r.2.1,B r.2.2]) (aU:=fun r=>[]) 10 (.call [] [] (fG a) .no fun x0=>.op 20002 (.ln (cI .u32) x0) (.br 100000015 (.ps 1000003 [.n 4,.n 5] (.ret ([],[],false))) (.op 40004 (.ln (cI .u32) x0) (.op 40008 (.el (cI .u32) x0 .dn) (.call [] [] (J5 (nth x0 ((((x0.length:Nat):Int)-1).toNat))) .no fun x1=>.call [] [] (GN tA (32-x1)) .no fun x2=>.call [] [] (GN x0 (32-x1)) .no fun x3=>.op 60002 (.ln (cI .u32) x2) (.op 60004 (.mk (cI .u32) 0 (.up x2.length)) (.op 70002 (.ln (cI .u32) x2) (.ps 1000001 [.n 5,.k [0,1,4,5,7,8] [10]] (.lp1 0 (Ru x1 x2 x3 [] (((x2.length:Nat):Int)-1) (List.replicate x2.length 0)) fun x4=>.call [] [] (Vo [2] (32-x1)) .no fun x5=>.op 120004 (.el (cI .u32) x5.1 (.up 0)) (.call [] [] (PX x4.1 (nth x5.1 0)) .no fun x6=>.call [] [] (fG x4.2) .no fun x7=>.ret (x7,x6.1,true))))))))))) Tryz.func214 (by kernel_rfl) (by kernel_rfl) (by kernel_rfl)
end Go.Ab.M
