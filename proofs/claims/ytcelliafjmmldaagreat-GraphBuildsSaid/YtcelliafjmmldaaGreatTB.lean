import Derived.Test.YtcelliafjmmldaaGreatTA
namespace Go.Ab.M
open Go.Proofs
set_option linter.unusedVariables false
set_option maxRecDepth 100000
def F8 (l:List Int) (n:Int):St:=⟨19,0,[(0,SL (cI .u32) l),(3,I n)],[]⟩
def Gj (l:List Int) (n:Int):St:=⟨19,0,[(3,I n)],[]⟩
def rU (l:List Int) (n:Int):Option (Int⊕Int):=
 bif decide (n>0) then
 bif inK .i64 (n-1) then
 bif decide (0≤n-1) then
 bif decide ((n-1).toNat<l.length) then
 bif (nth l ((n-1).toNat))==0 then
 bif inK .i64 (n-1) then
 some (.inl (n-1))
 else none
 else
 some (.inr n)
 else none
 else none
 else none
 else
 some (.inr n)
theorem XM (l:List Int):∀σ:Int,aN Tryz.prog (nav [1,1,0,0,0] (ah Tryz.f221)) (fun (σ:Int)=>F8 l σ) (fun (_:Int)=>(.exit 0)) (fun (y:Int)=>Gj l y) σ (rU l σ)
 | n=>aF 1010 (.br 20006 (.op 20012 (.el (cI .u32) l .dn) (.br 100000015 (.ps 1000003 [.k [0,3] []] (.ret (.inl (n-1)))) (.ps 1000003 [.k [3] []] (.ret (.inr n))))) (.ps 1000003 [.k [3] []] (.ret (.inr n)))) (by kernel_rfl)
def Ij (l:List Int) (n:Int):Option Int:=aK (fun (σ:Int)=>rU l σ) FU n
theorem Xu (l:List Int) (n:Int):∀y:Int,Ij l n=some y→Runs Tryz.prog (.loop (nav [1,1,0,0,0] (ah Tryz.f221))) (F8 l n) ((.exit 0)) ((fun (y:Int)=>Gj l y) y):=
 aS (head:=fun (σ:Int)=>F8 l σ) (eo:=fun (_:Int)=>(.exit 0)) (so:=fun (y:Int)=>Gj l y) (XM l) (fun _ h=>by cases h) FU n
def su (l:List Int):Option Int:=
 (Ij l ((l.length:Nat):Int)).bind fun x0=>
 some x0
theorem pJ (l:List Int):∀r,su l=some r→aj Tryz.prog 221 0 [SL (cI .u32) l] [] (I r) []:=
 ak (enc:=fun r=>I r) (aP:=fun r=>[]) 10 (.op 10002 (.ln (cI .u32) l) (.ps 1000001 [.k [0,3] []] (.lp1 0 (Xu l ((l.length:Nat):Int)) fun x0=>.ret x0))) Tryz.func221 (by kernel_rfl) (by kernel_rfl) (by kernel_rfl)
def jZ (x:Int):Option Int:=
 bif decide (x≥65536) then
 bif decide ((nS .u32 x 16)≥256) then
 bif decide (0≤IntKind.wrap .u8 (nS .u32 (nS .u32 x 16) 8)) then
 bif decide ((IntKind.wrap .u8 (nS .u32 (nS .u32 x 16) 8)).toNat<mg.size) then
 bif inK .i64 ((mg.get! ((IntKind.wrap .u8 (nS .u32 (nS .u32 x 16) 8)).toNat)).toNat:Int) then
 bif inK .i64 ((16+8)+((mg.get! ((IntKind.wrap .u8 (nS .u32 (nS .u32 x 16) 8)).toNat)).toNat:Int)) then
 some ((16+8)+((mg.get! ((IntKind.wrap .u8 (nS .u32 (nS .u32 x 16) 8)).toNat)).toNat:Int))
 else none
 else none
 else none
 else none
 else
 bif decide (0≤IntKind.wrap .u8 (nS .u32 x 16)) then
 bif decide ((IntKind.wrap .u8 (nS .u32 x 16)).toNat<mg.size) then
 bif inK .i64 ((mg.get! ((IntKind.wrap .u8 (nS .u32 x 16)).toNat)).toNat:Int) then
 bif inK .i64 (16+((mg.get! ((IntKind.wrap .u8 (nS .u32 x 16)).toNat)).toNat:Int)) then
 some (16+((mg.get! ((IntKind.wrap .u8 (nS .u32 x 16)).toNat)).toNat:Int))
 else none
 else none
 else none
 else none
 else
 bif decide (x≥256) then
 bif decide (0≤IntKind.wrap .u8 (nS .u32 x 8)) then
 bif decide ((IntKind.wrap .u8 (nS .u32 x 8)).toNat<mg.size) then
 bif inK .i64 ((mg.get! ((IntKind.wrap .u8 (nS .u32 x 8)).toNat)).toNat:Int) then
 bif inK .i64 ((0+8)+((mg.get! ((IntKind.wrap .u8 (nS .u32 x 8)).toNat)).toNat:Int)) then
 some ((0+8)+((mg.get! ((IntKind.wrap .u8 (nS .u32 x 8)).toNat)).toNat:Int))
 else none
 else none
 else none
 else none
 else
 bif decide (0≤IntKind.wrap .u8 x) then
 bif decide ((IntKind.wrap .u8 x).toNat<mg.size) then
 bif inK .i64 ((mg.get! ((IntKind.wrap .u8 x).toNat)).toNat:Int) then
 bif inK .i64 (0+((mg.get! ((IntKind.wrap .u8 x).toNat)).toNat:Int)) then
 some (0+((mg.get! ((IntKind.wrap .u8 x).toNat)).toNat:Int))
 else none
 else none
 else none
 else none
theorem Ol (x:Int):∀r,jZ x=some r→aj Tryz.prog 204 0 [NI .u32 x] [] (I r) []:=
 ak (enc:=fun r=>I r) (aP:=fun r=>[]) 10 (.br 100000004 (.br 100000008 (.op 70004 .wr (.op 70006 (.ch mg .dn) (.ret ((16+8)+((mg.get! ((IntKind.wrap .u8 (nS .u32 (nS .u32 x 16) 8)).toNat)).toNat:Int))))) (.op 70004 .wr (.op 70006 (.ch mg .dn) (.ret (16+((mg.get! ((IntKind.wrap .u8 (nS .u32 x 16)).toNat)).toNat:Int)))))) (.br 100000008 (.op 70004 .wr (.op 70006 (.ch mg .dn) (.ret ((0+8)+((mg.get! ((IntKind.wrap .u8 (nS .u32 x 8)).toNat)).toNat:Int))))) (.op 70004 .wr (.op 70006 (.ch mg .dn) (.ret (0+((mg.get! ((IntKind.wrap .u8 x).toNat)).toNat:Int))))))) Tryz.func204 (by kernel_rfl) (by kernel_rfl) (by kernel_rfl)
def uO (a:Int):Option Int:=
 (jZ a).bind fun x0=>
 some x0
theorem PV (a:Int):∀r,uO a=some r→aj Tryz.prog 296 0 [NI .u32 a] [] (I r) []:=
 ak (enc:=fun r=>I r) (aP:=fun r=>[]) 10 (.call [] [] (Ol a) .no fun x0=>.ret x0) Tryz.func296 (by kernel_rfl) (by kernel_rfl) (by kernel_rfl)
def kH (a:List Int):Option Int:=
 (su a).bind fun x0=>
 bif x0==0 then
 some 0
 else
 bif inK .i64 (x0-1) then
 bif inK .i64 (32*(x0-1)) then
 bif inK .i64 (x0-1) then
 bif decide (0≤x0-1) then
 bif decide ((x0-1).toNat<a.length) then
 (uO (nth a ((x0-1).toNat))).bind fun x1=>
 bif inK .i64 ((32*(x0-1))+x1) then
 some ((32*(x0-1))+x1)
 else none
 else none
 else none
 else none
 else none
 else none
theorem uV (a:List Int):∀r,kH a=some r→aj Tryz.prog 263 0 [SL (cI .u32) a] [] (I r) []:=
 ak (enc:=fun r=>I r) (aP:=fun r=>[]) 10 (.call [] [] (pJ a) .no fun x0=>.br 100000007 (.ret 0) (.op 40012 (.el (cI .u32) a .dn) (.call [] [] (PV (nth a ((x0-1).toNat))) .no fun x1=>.ret ((32*(x0-1))+x1)))) Tryz.func263 (by kernel_rfl) (by kernel_rfl) (by kernel_rfl)
def ig (a:List Int):Option (List Int):=
 (su a).bind fun x0=>
 bif x0==0 then
 some []
 else
 bif decide (0≤x0) then
 bif decide (x0.toNat≤2147483648) then
 some (a.take (List.replicate x0.toNat 0:List Int).length++(List.replicate x0.toNat 0:List Int).drop a.length)
 else none
 else none
theorem gU (a:List Int):∀r,ig a=some r→aj Tryz.prog 212 0 [SL (cI .u32) a] [] (SL (cI .u32) r) []:=
 ak (enc:=fun r=>SL (cI .u32) r) (aP:=fun r=>[]) 10 (.call [] [] (pJ a) .no fun x0=>.br 100000008 (.ps 1000003 [.n 2] (.ret [])) (.op 40002 (.mk (cI .u32) 0 .dn) (.op 50004 (.ap (cI .u32) (List.replicate x0.toNat 0) a 1 fun _=>⟨rfl,rfl⟩) (.ps 1000003 [.z 2] (.ret (a.take (List.replicate x0.toNat 0:List Int).length++(List.replicate x0.toNat 0:List Int).drop a.length)))))) Tryz.func212 (by kernel_rfl) (by kernel_rfl) (by kernel_rfl)
def CY (l:List Int) (n:Int) (i:Nat):St:=⟨18,0,[(3,NI .u64 n),(6,SL (cI .u32) l),(7,I ((l.length:Nat):Int)),(8,I ((i:Nat):Int))],[]⟩
def D6 (l:List Int) (n:Int):St:=⟨18,0,[(3,NI .u64 n)],[]⟩
def aZ (l:List Int) (n:Int) (i:Nat):Option ((Int×Nat)⊕Int):=
 bif decide (((i:Nat):Int)<((l.length:Nat):Int)) then
 bif decide (i<l.length) then
 bif inK .u64 (nth l i) then
 bif inK .i64 (((i:Nat):Int)+1) then
 some (.inl (IntKind.wrap .u64 (n+(nth l i)),i+1))
 else none
 else none
 else none
 else
 some (.inr n)
theorem Vj (l:List Int):∀σ:Int×Nat,aN Tryz.prog (nav [1,1,0,1,0,0] (ah Tryz.f295)) (fun (σ:Int×Nat)=>CY l σ.1 σ.2) (fun (_:Int)=>(.exit 0)) (fun (y:Int)=>D6 l y) σ (aZ l σ.1 σ.2)
 | (n,i)=>aF 1010 (.br 100000009 (.op 40000 (.el (cI .u32) l (.up i)) (.ps 1000003 [.k [3,6,7,8] []] (.ret (.inl (IntKind.wrap .u64 (n+(nth l i)),i+1))))) (.ps 1000003 [.k [3] []] (.ret (.inr n)))) (by kernel_rfl)
def mM (l:List Int) (n:Int) (i:Nat):Option Int:=aK (fun (σ:Int×Nat)=>aZ l σ.1 σ.2) FU (n,i)
theorem Xd (l:List Int) (n:Int) (i:Nat):∀y:Int,mM l n i=some y→Runs Tryz.prog (.loop (nav [1,1,0,1,0,0] (ah Tryz.f295))) (CY l n i) ((.exit 0)) ((fun (y:Int)=>D6 l y) y):=
 aS (head:=fun (σ:Int×Nat)=>CY l σ.1 σ.2) (eo:=fun (_:Int)=>(.exit 0)) (so:=fun (y:Int)=>D6 l y) (Vj l) (fun _ h=>by cases h) FU (n,i)
def l9 (l:List Int):Option Int:=
 (mM l 0 0).bind fun x0=>
 some x0
theorem BK (l:List Int):∀r,l9 l=some r→aj Tryz.prog 295 0 [SL (cI .u32) l] [] (NI .u64 r) []:=
 ak (enc:=fun r=>NI .u64 r) (aP:=fun r=>[]) 10 (.op 20002 (.ln (cI .u32) l) (.ps 1000001 [.k [3,6,7,8] []] (.lp1 0 (Xd l 0 0) fun x0=>.ret x0))) Tryz.func295 (by kernel_rfl) (by kernel_rfl) (by kernel_rfl)
def wR (n:Int):Option (Int×Int):=
 some (IntKind.wrap .u32 (nS .u64 n 32),IntKind.wrap .u32 n)
theorem Gn (n:Int):∀r,wR n=some r→aj Tryz.prog 294 0 [NI .u64 n] [] (.tup [NI .u32 r.1,NI .u32 r.2]) []:=
 ak (enc:=fun r=>.tup [NI .u32 r.1,NI .u32 r.2]) (aP:=fun r=>[]) 10 (.op 10004 .wr (.op 10008 .wr (.ret (IntKind.wrap .u32 (nS .u64 n 32),IntKind.wrap .u32 n)))) Tryz.func294 (by kernel_rfl) (by kernel_rfl) (by kernel_rfl)
def KA (a:Int) (b:Int) (c:Int) (d:Int):Option (Int×Int):=
 bif inK .u64 a then
 bif inK .u64 b then
 (l9 [c,d]).bind fun x0=>
 (wR (IntKind.wrap .u64 ((IntKind.wrap .u64 (a*b))+x0))).bind fun x1=>
 some (x1.1,x1.2)
 else none
 else none
theorem SY (a:Int) (b:Int) (c:Int) (d:Int):∀r,KA a b c d=some r→aj Tryz.prog 266 0 [NI .u32 a,NI .u32 b,NI .u32 c,NI .u32 d] [] (.tup [NI .u32 r.1,NI .u32 r.2]) []:=
 ak (enc:=fun r=>.tup [NI .u32 r.1,NI .u32 r.2]) (aP:=fun r=>[]) 10 (.call [] [] (BK [c,d]) (.yes fun _=>⟨rfl,trivial⟩) fun x0=>.call [] [] (Gn (IntKind.wrap .u64 ((IntKind.wrap .u64 (a*b))+x0))) .no fun x1=>.ret (x1.1,x1.2)) Tryz.func266 (by kernel_rfl) (by kernel_rfl) (by kernel_rfl)
def Ai (bV:Nat) (a:List Int) (w:Int) (c1:Int) (i:Nat) (out:List Int):St:=⟨37,1,[(0,.msl 0 0 none (some bV)),(1,SL (cI .u32) a),(2,NI .u32 w),(3,NI .u32 c1),(10,SL (cI .u32) a),(11,I ((a.length:Nat):Int)),(12,I ((i:Nat):Int))],[(0,ROW 1 (cI .u32) out 0)]⟩
def AA (bV:Nat) (a:List Int) (w:Int) (c1:Int) (out:List Int):St:=⟨37,1,[(0,.msl 0 0 none (some bV)),(1,SL (cI .u32) a),(3,NI .u32 c1)],[(0,ROW 1 (cI .u32) out 0)]⟩
def sJ (bV:Nat) (a:List Int) (w:Int) (c1:Int) (i:Nat) (out:List Int):Option ((Int×Nat×List Int)⊕(Int×List Int)):=
 bif decide (((i:Nat):Int)<((a.length:Nat):Int)) then
 bif decide (i<a.length) then
 bif decide (i<out.length) then
 bif decide (i<out.length) then
 (KA (nth a i) w (nth out i) c1).bind fun x0=>
 bif decide (i<out.length) then
 bif decide (i<out.length) then
 bif inK .i64 (((i:Nat):Int)+1) then
 some (.inl (x0.1,i+1,out.set i x0.2))
 else none
 else none
 else none
 else none
 else none
 else none
 else
 some (.inr (c1,out))
theorem Um (bV:Nat) (a:List Int) (w:Int):∀σ:Int×Nat×List Int,aN Tryz.prog (nav [0,1,0,0] (ah Tryz.f215)) (fun (σ:Int×Nat×List Int)=>Ai bV a w σ.1 σ.2.1 σ.2.2) (fun (_:Int×List Int)=>(.exit 0)) (fun (y:Int×List Int)=>AA bV a w y.1 y.2) σ (sJ bV a w σ.1 σ.2.1 σ.2.2)
 | (c1,i,out)=>aF 1010 (.br 100000013 (.op 20002 (.el (cI .u32) a (.up i)) (.op 30012 (.el (cI .u32) out (.up i)) (.op 30014 (.ld (cI .u32) out) (.call [] [] (SY (nth a i) w (nth out i) c1) .no fun x0=>.op 30028 (.el (cI .u32) out (.up i)) (.op 30030 (.st (cI .u32) out x0.2) (.ps 1000003 [.k [0,1,2,3,10,11,12] [0]] (.ret (.inl (x0.1,i+1,out.set i x0.2))))))))) (.ps 1000003 [.k [0,1,3] [0]] (.ret (.inr (c1,out))))) (by kernel_rfl)
def IK (bV:Nat) (a:List Int) (w:Int) (c1:Int) (i:Nat) (out:List Int):Option (Int×List Int):=aK (fun (σ:Int×Nat×List Int)=>sJ bV a w σ.1 σ.2.1 σ.2.2) FU (c1,i,out)
theorem TL (bV:Nat) (a:List Int) (w:Int) (c1:Int) (i:Nat) (out:List Int):∀y:Int×List Int,IK bV a w c1 i out=some y→Runs Tryz.prog (.loop (nav [0,1,0,0] (ah Tryz.f215))) (Ai bV a w c1 i out) ((.exit 0)) ((fun (y:Int×List Int)=>AA bV a w y.1 y.2) y):=
 aS (head:=fun (σ:Int×Nat×List Int)=>Ai bV a w σ.1 σ.2.1 σ.2.2) (eo:=fun (_:Int×List Int)=>(.exit 0)) (so:=fun (y:Int×List Int)=>AA bV a w y.1 y.2) (Um bV a w) (fun _ h=>by cases h) FU (c1,i,out)
def I4 (o0:List Int) (bV:Nat) (a:List Int) (w:Int) (c:Int):Option (List Int):=
 (IK bV a w c 0 o0).bind fun x0=>
 bif decide (a.length<x0.2.length) then
 bif decide (a.length<x0.2.length) then
 some (x0.2.set a.length x0.1)
 else none
 else none
theorem Xr (o0:List Int) (bV:Nat) (a:List Int) (w:Int) (c:Int):∀r,I4 o0 bV a w c=some r→aj Tryz.prog 215 1 [.msl 0 0 none (some bV),SL (cI .u32) a,NI .u32 w,NI .u32 c] [(0,ROW 1 (cI .u32) o0 0)] (.tup []) [(0,ROW 1 (cI .u32) r 0)]:=
 ak (enc:=fun r=>.tup []) (aP:=fun r=>[(0,ROW 1 (cI .u32) r 0)]) 10 (.op 2 (.ln (cI .u32) a) (.ps 1000001 [.k [0,1,2,3,10,11,12] [0]] (.lp1 0 (TL bV a w c 0 o0) fun x0=>.op 50004 (.ln (cI .u32) a) (.op 50008 (.el (cI .u32) x0.2 (.up a.length)) (.op 50010 (.st (cI .u32) x0.2 x0.1) (.ret (x0.2.set a.length x0.1))))))) Tryz.func215 (by kernel_rfl) (by kernel_rfl) (by kernel_rfl)
def Gw (a:List Int) (w:Int) (c:Int):Option (List Int):=
 bif inK .i64 (((a.length:Nat):Int)+1) then
 bif decide (a.length+1≤2147483648) then
 (I4 (List.replicate (a.length+1) 0) (a.length+1) a w c).bind fun x0=>
 (ig x0).bind fun x1=>
 some x1
 else none
 else none
theorem O9 (a:List Int) (w:Int) (c:Int):∀r,Gw a w c=some r→aj Tryz.prog 310 0 [SL (cI .u32) a,NI .u32 w,NI .u32 c] [] (SL (cI .u32) r) []:=
 ak (enc:=fun r=>SL (cI .u32) r) (aP:=fun r=>[]) 10 (.op 10002 (.ln (cI .u32) a) (.op 10006 (.mk (cI .u32) 0 (.up (a.length+1))) (.call [10] [] (Xr (List.replicate (a.length+1) 0) (a.length+1) a w c) .no fun x0=>.call [] [] (gU x0) .no fun x1=>.ret x1))) Tryz.func310 (by kernel_rfl) (by kernel_rfl) (by kernel_rfl)
def zI (a:List Int) (n:Int):Option (List Int):=
 bif decide (0≤mxI 0 (mnI n 100000)) then
 bif decide (0<32) then
 bif decide (mxI 0 (mnI n 100000)≤Go.Ab.hi .i64) then
 bif decide (0≤(mxI 0 (mnI n 100000))/32) then
 bif decide (((mxI 0 (mnI n 100000))/32).toNat≤2147483648) then
 bif decide (0≤mxI 0 (mnI n 100000)) then
 bif decide (0<32) then
 bif decide (0≤(mxI 0 (mnI n 100000))%32) then
 (Gw a (PY .u32 1 ((mxI 0 (mnI n 100000))%32)) 0).bind fun x0=>
 bif decide ((List.replicate (((mxI 0 (mnI n 100000))/32).toNat) 0:List Int).length+x0.length≤2147483648) then
 (ig ((List.replicate (((mxI 0 (mnI n 100000))/32).toNat) 0)++x0)).bind fun x1=>
 some x1
 else none
 else none
 else none
 else none
 else none
 else none
 else none
 else none
 else none
theorem JA (a:List Int) (n:Int):∀r,zI a n=some r→aj Tryz.prog 297 0 [SL (cI .u32) a,I n] [] (SL (cI .u32) r) []:=
 ak (enc:=fun r=>SL (cI .u32) r) (aP:=fun r=>[]) 10 (.op 20004 (.mk (cI .u32) 0 .dn) (.call [] [] (O9 a (PY .u32 1 ((mxI 0 (mnI n 100000))%32)) 0) .no fun x0=>.op 30012 (.ap (cI .u32) (List.replicate (((mxI 0 (mnI n 100000))/32).toNat) 0) x0 1 fun _=>⟨rfl,rfl⟩) (.call [] [] (gU ((List.replicate (((mxI 0 (mnI n 100000))/32).toNat) 0)++x0)) .no fun x1=>.ret x1))) Tryz.func297 (by kernel_rfl) (by kernel_rfl) (by kernel_rfl)
def wE (hi:Int) (lo:Int) (d:Int):Option (Int×Int×Bool):=
 bif decide (hi≥d) then
 some (0,0,false)
 else
 bif inK .u64 hi then
 bif inK .u64 lo then
 bif inK .u64 d then
 bif decide (0≤ZL .u64 (PY .u64 hi 32) lo) then
 bif decide (0<d) then
 bif decide (ZL .u64 (PY .u64 hi 32) lo≤Go.Ab.hi .u64) then
 bif inK .u64 d then
 bif decide (0≤ZL .u64 (PY .u64 hi 32) lo) then
 bif decide (0<d) then
 some (IntKind.wrap .u32 ((ZL .u64 (PY .u64 hi 32) lo)/d),IntKind.wrap .u32 ((ZL .u64 (PY .u64 hi 32) lo)%d),true)
 else none
 else none
 else none
 else none
 else none
 else none
 else none
 else none
 else none
theorem Ko (hi:Int) (lo:Int) (d:Int):∀r,wE hi lo d=some r→aj Tryz.prog 312 0 [NI .u32 hi,NI .u32 lo,NI .u32 d] [] (.tup [NI .u32 r.1,NI .u32 r.2.1,B r.2.2]) []:=
 ak (enc:=fun r=>.tup [NI .u32 r.1,NI .u32 r.2.1,B r.2.2]) (aP:=fun r=>[]) 10 (.br 100000012 (.ret (0,0,false)) (.op 40008 .wr (.op 40018 .wr (.ret (IntKind.wrap .u32 ((ZL .u64 (PY .u64 hi 32) lo)/d),IntKind.wrap .u32 ((ZL .u64 (PY .u64 hi 32) lo)%d),true))))) Tryz.func312 (by kernel_rfl) (by kernel_rfl) (by kernel_rfl)
def oN (rest:List Int) (b:List Int):Option Int:=
 bif decide (((rest.length:Nat):Int)<((b.length:Nat):Int)) then
 some 0
 else
 bif decide (((rest.length:Nat):Int)>((b.length:Nat):Int)) then
 bif decide (b.length<rest.length) then
 bif inK .i64 (((b.length:Nat):Int)-1) then
 bif decide (0≤((b.length:Nat):Int)-1) then
 bif decide ((((b.length:Nat):Int)-1).toNat<rest.length) then
 bif inK .i64 (((b.length:Nat):Int)-1) then
 bif decide (0≤((b.length:Nat):Int)-1) then
 bif decide ((((b.length:Nat):Int)-1).toNat<b.length) then
 (wE (nth rest b.length) (nth rest ((((b.length:Nat):Int)-1).toNat)) (nth b ((((b.length:Nat):Int)-1).toNat))).bind fun x0=>
 bif !x0.2.2 then
 some 4294967295
 else
 some x0.1
 else none
 else none
 else none
 else none
 else none
 else none
 else none
 else
 bif inK .i64 (((b.length:Nat):Int)-1) then
 bif decide (0≤((b.length:Nat):Int)-1) then
 bif decide ((((b.length:Nat):Int)-1).toNat<rest.length) then
 bif inK .i64 (((b.length:Nat):Int)-1) then
 bif decide (0≤((b.length:Nat):Int)-1) then
 bif decide ((((b.length:Nat):Int)-1).toNat<b.length) then
 (wE 0 (nth rest ((((b.length:Nat):Int)-1).toNat)) (nth b ((((b.length:Nat):Int)-1).toNat))).bind fun x0=>
 bif !x0.2.2 then
 some 4294967295
 else
 some x0.1
 else none
 else none
 else none
 else none
 else none
 else none
theorem VA (rest:List Int) (b:List Int):∀r,oN rest b=some r→aj Tryz.prog 311 0 [SL (cI .u32) rest,SL (cI .u32) b] [] (NI .u32 r) []:=
 ak (enc:=fun r=>NI .u32 r) (aP:=fun r=>[]) 10 (.op 10002 (.ln (cI .u32) b) (.op 20002 (.ln (cI .u32) rest) (.br 100000015 (.ret 0) (.op 50002 (.ln (cI .u32) rest) (.br 100000019 (.op 60004 (.el (cI .u32) rest (.up b.length)) (.op 70008 (.el (cI .u32) rest .dn) (.op 70018 (.el (cI .u32) b .dn) (.call [] [] (Ko (nth rest b.length) (nth rest ((((b.length:Nat):Int)-1).toNat)) (nth b ((((b.length:Nat):Int)-1).toNat))) .no fun x0=>.br 100000041 (.ret 4294967295) (.ret x0.1))))) (.op 70008 (.el (cI .u32) rest .dn) (.op 70018 (.el (cI .u32) b .dn) (.call [] [] (Ko 0 (nth rest ((((b.length:Nat):Int)-1).toNat)) (nth b ((((b.length:Nat):Int)-1).toNat))) .no fun x0=>.br 100000041 (.ret 4294967295) (.ret x0.1))))))))) Tryz.func311 (by kernel_rfl) (by kernel_rfl) (by kernel_rfl)
def qU (x:Int):Option Bool:=
 some (x != x)
theorem AY (x:Int):∀r,qU x=some r→aj Tryz.prog 301 0 [NI .u32 x] [] (B r) []:=
 ak (enc:=fun r=>B r) (aP:=fun r=>[]) 10 (.ret (x != x)) Tryz.func301 (by kernel_rfl) (by kernel_rfl) (by kernel_rfl)
def nH (x:Int) (y:Int):Option Int:=
 (qU x).bind fun x0=>
 (qU y).bind fun x1=>
 bif x0 then
 bif x1 then
 some 0
 else
 some (-1)
 else
 bif x1 then
 some 1
 else
 bif decide (x<y) then
 some (-1)
 else
 bif decide (x>y) then
 some 1
 else
 some 0
theorem Jo (x:Int) (y:Int):∀r,nH x y=some r→aj Tryz.prog 270 0 [NI .u32 x,NI .u32 y] [] (I r) []:=
 ak (enc:=fun r=>I r) (aP:=fun r=>[]) 10 (.call [] [] (AY x) .no fun x0=>.call [] [] (AY y) .no fun x1=>.br 100000011 (.br 100000012 (.ret 0) (.ret (-1))) (.br 100000013 (.ret 1) (.br 100000016 (.ret (-1)) (.br 100000019 (.ret 1) (.ret 0))))) Tryz.func270 (by kernel_rfl) (by kernel_rfl) (by kernel_rfl)
def Ir (a:List Int) (b:List Int) (x0:Int) (i:Nat):St:=⟨41,0,[(0,SL (cI .u32) a),(1,SL (cI .u32) b),(5,I x0),(18,I x0),(19,I ((i:Nat):Int))],[]⟩
def IY (a:List Int) (b:List Int) (x0:Int) (i:Int):St:=⟨41,0,[(4,I i)],[]⟩
def IU (a:List Int) (b:List Int) (x0:Int):St:=⟨41,0,[],[]⟩
def ji (a:List Int) (b:List Int) (x0:Int) (i:Nat):Option (Nat⊕(Int⊕Unit)):=
 bif decide (((i:Nat):Int)<x0) then
 bif inK .i64 (x0-1) then
 bif inK .i64 ((x0-1)-((i:Nat):Int)) then
 bif decide (0≤(x0-1)-((i:Nat):Int)) then
 bif decide (((x0-1)-((i:Nat):Int)).toNat<a.length) then
 bif inK .i64 (x0-1) then
 bif inK .i64 ((x0-1)-((i:Nat):Int)) then
 bif decide (0≤(x0-1)-((i:Nat):Int)) then
 bif decide (((x0-1)-((i:Nat):Int)).toNat<b.length) then
 (nH (nth a (((x0-1)-((i:Nat):Int)).toNat)) (nth b (((x0-1)-((i:Nat):Int)).toNat))).bind fun x3=>
 bif x3 != 0 then
 some (.inr (.inl x3))
 else
 bif inK .i64 (((i:Nat):Int)+1) then
 some (.inl (i+1))
 else none
 else none
 else none
 else none
 else none
 else none
 else none
 else none
 else none
 else
 some (.inr (.inr ()))
theorem Zi (a:List Int) (b:List Int) (x0:Int):∀σ:Nat,aN Tryz.prog (nav [1,1,1,0,1,0,0] (ah Tryz.f222)) (fun (σ:Nat)=>Ir a b x0 σ) (fun (y:Int⊕Unit)=>aH y (fun _=>.ret) (fun _=>(.exit 0))) (fun (y:Int⊕Unit)=>aH y (fun y=>IY a b x0 y) (fun y=>IU a b x0)) σ (ji a b x0 σ)
 | i=>aF 1010 (.br 100000020 (.op 80010 (.el (cI .u32) a .dn) (.op 80024 (.el (cI .u32) b .dn) (.call [] [] (Jo (nth a (((x0-1)-((i:Nat):Int)).toNat)) (nth b (((x0-1)-((i:Nat):Int)).toNat))) .no fun x3=>.br 100000038 (.ps 1000003 [.k [4] []] (.ret (.inr (.inl x3)))) (.ps 1000003 [.k [0,1,5,18,19] []] (.ret (.inl (i+1))))))) (.ps 1000003 [.k [] []] (.ret (.inr (.inr ()))))) (by kernel_rfl)
def LU (a:List Int) (b:List Int) (x0:Int) (i:Nat):Option (Int⊕Unit):=aK (fun (σ:Nat)=>ji a b x0 σ) FU i
theorem ZK (a:List Int) (b:List Int) (x0:Int) (i:Nat):∀y:Int⊕Unit,LU a b x0 i=some y→Runs Tryz.prog (.loop (nav [1,1,1,0,1,0,0] (ah Tryz.f222))) (Ir a b x0 i) (aH y (fun _=>.ret) (fun _=>(.exit 0))) ((fun (y:Int⊕Unit)=>aH y (fun y=>IY a b x0 y) (fun y=>IU a b x0)) y):=
 aS (head:=fun (σ:Nat)=>Ir a b x0 σ) (eo:=fun (y:Int⊕Unit)=>aH y (fun _=>.ret) (fun _=>(.exit 0))) (so:=fun (y:Int⊕Unit)=>aH y (fun y=>IY a b x0 y) (fun y=>IU a b x0)) (Zi a b x0) (fun y h=>by rcases y with y | y<;>cases h) FU i
def O8 (a:List Int) (b:List Int):Option Int:=
 (su a).bind fun x0=>
 (su b).bind fun x1=>
 (cmp_Compare_int x0 x1).bind fun x2=>
 bif x2 != 0 then
 some x2
 else
 (LU a b x0 0).bind fun y_=>aH y_ (fun x3=>
 some x3)
 (fun x4=>
 some 0)
theorem Vs (a:List Int) (b:List Int):∀r,O8 a b=some r→aj Tryz.prog 222 0 [SL (cI .u32) a,SL (cI .u32) b] [] (I r) []:=
 ak (enc:=fun r=>I r) (aP:=fun r=>[]) 10 (.call [] [] (pJ a) .no fun x0=>.call [] [] (pJ b) .no fun x1=>.call [] [] (jH x0 x1) .no fun x2=>.br 100000016 (.ret x2) (.ps 1000001 [.k [0,1,5,18,19] []] (.lp2 0 (ZK a b x0 0) (fun x3=>.ret x3) (fun x4=>.ret 0)))) Tryz.func222 (by kernel_rfl) (by kernel_rfl) (by kernel_rfl)
def Oa (a:List Int) (i:Int):Option Int:=
 bif decide (i<((a.length:Nat):Int)) then
 bif decide (0≤i) then
 bif decide (i.toNat<a.length) then
 some (nth a i.toNat)
 else none
 else none
 else
 some 0
theorem Qp (a:List Int) (i:Int):∀r,Oa a i=some r→aj Tryz.prog 262 0 [SL (cI .u32) a,I i] [] (NI .u32 r) []:=
 ak (enc:=fun r=>NI .u32 r) (aP:=fun r=>[]) 10 (.op 10004 (.ln (cI .u32) a) (.br 100000008 (.op 20004 (.el (cI .u32) a .dn) (.ret (nth a i.toNat))) (.ret 0))) Tryz.func262 (by kernel_rfl) (by kernel_rfl) (by kernel_rfl)
def Pv (a:Int) (b:Int) (c:Int):Option (Int×Int):=
 (l9 [b,c]).bind fun x0=>
 bif inK .u64 a then
 (l9 [IntKind.wrap .u32 (IntKind.wrap .u64 (a-x0))]).bind fun x1=>
 (wR (IntKind.wrap .u64 (x1+x0))).bind fun x2=>
 some (IntKind.wrap .u32 (IntKind.wrap .u64 (a-x0)),x2.1)
 else none
theorem aar (a:Int) (b:Int) (c:Int):∀r,Pv a b c=some r→aj Tryz.prog 300 0 [NI .u32 a,NI .u32 b,NI .u32 c] [] (.tup [NI .u32 r.1,NI .u32 r.2]) []:=
 ak (enc:=fun r=>.tup [NI .u32 r.1,NI .u32 r.2]) (aP:=fun r=>[]) 10 (.call [] [] (BK [b,c]) (.yes fun _=>⟨rfl,trivial⟩) fun x0=>.op 20008 .wr (.call [] [] (BK [IntKind.wrap .u32 (IntKind.wrap .u64 (a-x0))]) (.yes fun _=>⟨rfl,trivial⟩) fun x1=>.call [] [] (Gn (IntKind.wrap .u64 (x1+x0))) .no fun x2=>.ret (IntKind.wrap .u32 (IntKind.wrap .u64 (a-x0)),x2.1))) Tryz.func300 (by kernel_rfl) (by kernel_rfl) (by kernel_rfl)
def Io (a:List Int) (b:List Int) (x1:Int) (borrow:Int) (i:Nat) (out:List Int):St:=⟨40,0,[(0,SL (cI .u32) a),(1,SL (cI .u32) b),(7,.msl 10 0 none (some x1.toNat)),(8,NI .u32 borrow),(18,I x1),(19,I ((i:Nat):Int))],[(10,ROW 1 (cI .u32) out 0)]⟩
def H8 (a:List Int) (b:List Int) (x1:Int) (out:List Int):St:=⟨40,0,[(7,.msl 10 0 none (some x1.toNat))],[(10,ROW 1 (cI .u32) out 0)]⟩
def vI (a:List Int) (b:List Int) (x1:Int) (borrow:Int) (i:Nat) (out:List Int):Option ((Int×Nat×List Int)⊕(List Int)):=
 bif decide (((i:Nat):Int)<x1) then
 bif decide (i<a.length) then
 (Oa b ((i:Nat):Int)).bind fun x2=>
 (Pv (nth a i) x2 borrow).bind fun x3=>
 bif decide (i<out.length) then
 bif decide (i<out.length) then
 bif inK .i64 (((i:Nat):Int)+1) then
 some (.inl (x3.2,i+1,out.set i x3.1))
 else none
 else none
 else none
 else none
 else
 some (.inr out)
theorem ZT (a:List Int) (b:List Int) (x1:Int):∀σ:Int×Nat×List Int,aN Tryz.prog (nav [1,1,1,1,1,0,1,0,0] (ah Tryz.f265)) (fun (σ:Int×Nat×List Int)=>Io a b x1 σ.1 σ.2.1 σ.2.2) (fun (_:List Int)=>(.exit 0)) (fun (y:List Int)=>H8 a b x1 y) σ (vI a b x1 σ.1 σ.2.1 σ.2.2)
 | (borrow,i,out)=>aF 1010 (.br 100000020 (.op 90008 (.el (cI .u32) a (.up i)) (.call [] [] (Qp b ((i:Nat):Int)) .no fun x2=>.call [] [] (aar (nth a i) x2 borrow) .no fun x3=>.op 90028 (.el (cI .u32) out (.up i)) (.op 90030 (.st (cI .u32) out x3.1) (.ps 1000003 [.k [0,1,7,8,18,19] [10]] (.ret (.inl (x3.2,i+1,out.set i x3.1))))))) (.ps 1000003 [.k [7] [10]] (.ret (.inr out)))) (by kernel_rfl)
def Ld (a:List Int) (b:List Int) (x1:Int) (borrow:Int) (i:Nat) (out:List Int):Option (List Int):=aK (fun (σ:Int×Nat×List Int)=>vI a b x1 σ.1 σ.2.1 σ.2.2) FU (borrow,i,out)
theorem ZP (a:List Int) (b:List Int) (x1:Int) (borrow:Int) (i:Nat) (out:List Int):∀y:List Int,Ld a b x1 borrow i out=some y→Runs Tryz.prog (.loop (nav [1,1,1,1,1,0,1,0,0] (ah Tryz.f265))) (Io a b x1 borrow i out) ((.exit 0)) ((fun (y:List Int)=>H8 a b x1 y) y):=
 aS (head:=fun (σ:Int×Nat×List Int)=>Io a b x1 σ.1 σ.2.1 σ.2.2) (eo:=fun (_:List Int)=>(.exit 0)) (so:=fun (y:List Int)=>H8 a b x1 y) (ZT a b x1) (fun _ h=>by cases h) FU (borrow,i,out)
def LM (a:List Int) (b:List Int):Option (List Int×Bool):=
 (O8 a b).bind fun x0=>
 bif decide (x0<0) then
 some ([],false)
 else
 (su a).bind fun x1=>
 bif decide (0≤x1) then
 bif decide (x1.toNat≤2147483648) then
 (Ld a b x1 0 0 (List.replicate x1.toNat 0)).bind fun x2=>
 (ig x2).bind fun x3=>
 some (x3,true)
 else none
 else none
theorem Oj (a:List Int) (b:List Int):∀r,LM a b=some r→aj Tryz.prog 265 0 [SL (cI .u32) a,SL (cI .u32) b] [] (.tup [SL (cI .u32) r.1,B r.2]) []:=
 ak (enc:=fun r=>.tup [SL (cI .u32) r.1,B r.2]) (aP:=fun r=>[]) 10 (.call [] [] (Vs a b) .no fun x0=>.br 100000013 (.ps 1000003 [.n 4] (.ret ([],false))) (.call [] [] (pJ a) .no fun x1=>.op 40002 (.mk (cI .u32) 0 .dn) (.ps 1000001 [.k [0,1,7,8,18,19] [10]] (.lp1 0 (ZP a b x1 0 0 (List.replicate x1.toNat 0)) fun x2=>.call [] [] (gU x2) .no fun x3=>.ret (x3,true))))) Tryz.func265 (by kernel_rfl) (by kernel_rfl) (by kernel_rfl)
def xY (rest:List Int) (b:List Int) (q:Int):St:=⟨26,0,[(0,SL (cI .u32) rest),(1,SL (cI .u32) b),(6,NI .u32 q)],[]⟩
def yh (rest:List Int) (b:List Int) (aiL:List Int) (q:Int):St:=⟨26,0,[(0,SL (cI .u32) aiL),(6,NI .u32 q)],[]⟩
def lI (rest:List Int) (b:List Int) (q:Int):Option (Int⊕(List Int×Int)):=
 (Gw b q 0).bind fun x1=>
 (LM rest x1).bind fun x2=>
 bif x2.2 then
 some (.inr (x2.1,q))
 else
 some (.inl (IntKind.wrap .u32 (q-1)))
theorem QX (rest:List Int) (b:List Int):∀σ:Int,aN Tryz.prog (nav [1,0,1,1,0,0,0] (ah Tryz.f298)) (fun (σ:Int)=>xY rest b σ) (fun (_:List Int×Int)=>(.exit 0)) (fun (y:List Int×Int)=>yh rest b y.1 y.2) σ (lI rest b σ)
 | q=>aF 1010 (.call [] [] (O9 b q 0) .no fun x1=>.call [] [] (Oj rest x1) .no fun x2=>.br 100000020 (.ps 1000003 [.k [0,6] []] (.ret (.inr (x2.1,q)))) (.ps 1000003 [.k [0,1,6] []] (.ret (.inl (IntKind.wrap .u32 (q-1)))))) (by kernel_rfl)
def yO (rest:List Int) (b:List Int) (q:Int):Option (List Int×Int):=aK (fun (σ:Int)=>lI rest b σ) FU q
theorem RH (rest:List Int) (b:List Int) (q:Int):∀y:List Int×Int,yO rest b q=some y→Runs Tryz.prog (.loop (nav [1,0,1,1,0,0,0] (ah Tryz.f298))) (xY rest b q) ((.exit 0)) ((fun (y:List Int×Int)=>yh rest b y.1 y.2) y):=
 aS (head:=fun (σ:Int)=>xY rest b σ) (eo:=fun (_:List Int×Int)=>(.exit 0)) (so:=fun (y:List Int×Int)=>yh rest b y.1 y.2) (QX rest b) (fun _ h=>by cases h) FU q
def yY (rest:List Int) (b:List Int):Option (Int×List Int):=
 (oN rest b).bind fun x0=>
 (yO rest b x0).bind fun x1=>
 some (x1.2,x1.1)
theorem VI (rest:List Int) (b:List Int):∀r,yY rest b=some r→aj Tryz.prog 298 0 [SL (cI .u32) rest,SL (cI .u32) b] [] (.tup [NI .u32 r.1,SL (cI .u32) r.2]) []:=
 ak (enc:=fun r=>.tup [NI .u32 r.1,SL (cI .u32) r.2]) (aP:=fun r=>[]) 10 (.call [] [] (VA rest b) .no fun x0=>.ps 1000001 [.k [0,1,6] []] (.lp1 0 (RH rest b x0) fun x1=>.ret (x1.2,x1.1))) Tryz.func298 (by kernel_rfl) (by kernel_rfl) (by kernel_rfl)
def ED (x1:Int) (x2:List Int) (x3:List Int) (i:List Int) (i1:Int) (o:List Int):St:=⟨74,0,[(0,SL (cI .u32) x2),(1,SL (cI .u32) x3),(4,.msl 10 0 none (some x2.length)),(5,SL (cI .u32) i),(7,I (32-x1)),(8,I i1)],[(10,ROW 1 (cI .u32) o 0)]⟩
def Ep (x1:Int) (x2:List Int) (x3:List Int) (i:List Int) (o:List Int):St:=⟨74,0,[(4,.msl 10 0 none (some x2.length)),(5,SL (cI .u32) i),(7,I (32-x1))],[(10,ROW 1 (cI .u32) o 0)]⟩
def oM (x1:Int) (x2:List Int) (x3:List Int) (i:List Int) (i1:Int) (o:List Int):Option ((List Int×Int×List Int)⊕(List Int×List Int)):=
 bif decide (i1≥0) then
 bif decide (0≤i1) then
 bif decide (i1.toNat<x2.length) then
 bif decide (1+i.length≤2147483648) then
 (ig ([nth x2 i1.toNat]++i)).bind fun x4=>
 (yY x4 x3).bind fun x5=>
 bif decide (0≤i1) then
 bif decide (i1.toNat<o.length) then
 bif decide (i1.toNat<o.length) then
 bif inK .i64 (i1-1) then
 some (.inl (x5.2,i1-1,o.set i1.toNat x5.1))
 else none
 else none
 else none
 else none
 else none
 else none
 else none
 else
 some (.inr (i,o))
theorem U5 (x1:Int) (x2:List Int) (x3:List Int):∀σ:List Int×Int×List Int,aN Tryz.prog (nav [1,1,1,1,1,1,0,1,0,0] (ah Tryz.f264)) (fun (σ:List Int×Int×List Int)=>ED x1 x2 x3 σ.1 σ.2.1 σ.2.2) (fun (_:List Int×List Int)=>(.exit 0)) (fun (y:List Int×List Int)=>Ep x1 x2 x3 y.1 y.2) σ (oM x1 x2 x3 σ.1 σ.2.1 σ.2.2)
 | (i,i1,o)=>aF 1010 (.br 100000037 (.op 100008 (.el (cI .u32) x2 .dn) (.op 100016 (.ap (cI .u32) [nth x2 i1.toNat] i 1 fun _=>⟨rfl,rfl⟩) (.call [] [] (gU ([nth x2 i1.toNat]++i)) .no fun x4=>.call [] [] (VI x4 x3) .no fun x5=>.op 100030 (.el (cI .u32) o .dn) (.op 100032 (.st (cI .u32) o x5.1) (.ps 1000003 [.k [0,1,4,5,7,8] [10]] (.ret (.inl (x5.2,i1-1,o.set i1.toNat x5.1)))))))) (.ps 1000003 [.k [4,5,7] [10]] (.ret (.inr (i,o))))) (by kernel_rfl)
def zy (x1:Int) (x2:List Int) (x3:List Int) (i:List Int) (i1:Int) (o:List Int):Option (List Int×List Int):=aK (fun (σ:List Int×Int×List Int)=>oM x1 x2 x3 σ.1 σ.2.1 σ.2.2) FU (i,i1,o)
theorem Ws (x1:Int) (x2:List Int) (x3:List Int) (i:List Int) (i1:Int) (o:List Int):∀y:List Int×List Int,zy x1 x2 x3 i i1 o=some y→Runs Tryz.prog (.loop (nav [1,1,1,1,1,1,0,1,0,0] (ah Tryz.f264))) (ED x1 x2 x3 i i1 o) ((.exit 0)) ((fun (y:List Int×List Int)=>Ep x1 x2 x3 y.1 y.2) y):=
 aS (head:=fun (σ:List Int×Int×List Int)=>ED x1 x2 x3 σ.1 σ.2.1 σ.2.2) (eo:=fun (_:List Int×List Int)=>(.exit 0)) (so:=fun (y:List Int×List Int)=>Ep x1 x2 x3 y.1 y.2) (U5 x1 x2 x3) (fun _ h=>by cases h) FU (i,i1,o)
def tH (n:Int):Option (List Int):=
 (ig [IntKind.wrap .u32 n,IntKind.wrap .u32 (nS .u64 n 32)]).bind fun x0=>
 some x0
theorem lW (n:Int):∀r,tH n=some r→aj Tryz.prog 151 0 [NI .u64 n] [] (SL (cI .u32) r) []:=
 ak (enc:=fun r=>SL (cI .u32) r) (aP:=fun r=>[]) 10 (.op 10002 .wr (.op 10008 .wr (.call [] [] (gU [IntKind.wrap .u32 n,IntKind.wrap .u32 (nS .u64 n 32)]) .no fun x0=>.ret x0))) Tryz.func151 (by kernel_rfl) (by kernel_rfl) (by kernel_rfl)
def vM (jk:Nat) (mV:Nat) (bV:Nat) (a:List Int) (w:Int) (c1:Int) (i:Nat) (out:List Int):St:=⟨37,1,[(0,.msl 0 jk (some mV) (some bV)),(1,SL (cI .u32) a),(2,NI .u32 w),(3,NI .u32 c1),(10,SL (cI .u32) a),(11,I ((a.length:Nat):Int)),(12,I ((i:Nat):Int))],[(0,ROW 1 (cI .u32) out 0)]⟩
def vk (jk:Nat) (mV:Nat) (bV:Nat) (a:List Int) (w:Int) (c1:Int) (out:List Int):St:=⟨37,1,[(0,.msl 0 jk (some mV) (some bV)),(1,SL (cI .u32) a),(3,NI .u32 c1)],[(0,ROW 1 (cI .u32) out 0)]⟩
def gu (jk:Nat) (mV:Nat) (bV:Nat) (a:List Int) (w:Int) (c1:Int) (i:Nat) (out:List Int):Option ((Int×Nat×List Int)⊕(Int×List Int)):=
 bif decide (((i:Nat):Int)<((a.length:Nat):Int)) then
 bif decide (i<a.length) then
 bif decide (i<mV) then
 bif decide (plus jk i<out.length) then
 (KA (nth a i) w (nth out (plus jk i)) c1).bind fun x0=>
 bif decide (i<mV) then
 bif decide (plus jk i<out.length) then
 bif inK .i64 (((i:Nat):Int)+1) then
 some (.inl (x0.1,i+1,out.set (plus jk i) x0.2))
 else none
 else none
 else none
 else none
 else none
 else none
 else
 some (.inr (c1,out))
theorem O6 (jk:Nat) (mV:Nat) (bV:Nat) (a:List Int) (w:Int):∀σ:Int×Nat×List Int,aN Tryz.prog (nav [0,1,0,0] (ah Tryz.f215)) (fun (σ:Int×Nat×List Int)=>vM jk mV bV a w σ.1 σ.2.1 σ.2.2) (fun (_:Int×List Int)=>(.exit 0)) (fun (y:Int×List Int)=>vk jk mV bV a w y.1 y.2) σ (gu jk mV bV a w σ.1 σ.2.1 σ.2.2)
 | (c1,i,out)=>aF 1010 (.br 100000013 (.op 20002 (.el (cI .u32) a (.up i)) (.op 30012 (.el (cI .u32) out (.up i)) (.op 30014 (.ld (cI .u32) out) (.call [] [] (SY (nth a i) w (nth out (plus jk i)) c1) .no fun x0=>.op 30028 (.el (cI .u32) out (.up i)) (.op 30030 (.st (cI .u32) out x0.2) (.ps 1000003 [.k [0,1,2,3,10,11,12] [0]] (.ret (.inl (x0.1,i+1,out.set (plus jk i) x0.2))))))))) (.ps 1000003 [.k [0,1,3] [0]] (.ret (.inr (c1,out))))) (by kernel_rfl)
def Dw (jk:Nat) (mV:Nat) (bV:Nat) (a:List Int) (w:Int) (c1:Int) (i:Nat) (out:List Int):Option (Int×List Int):=aK (fun (σ:Int×Nat×List Int)=>gu jk mV bV a w σ.1 σ.2.1 σ.2.2) FU (c1,i,out)
theorem P6 (jk:Nat) (mV:Nat) (bV:Nat) (a:List Int) (w:Int) (c1:Int) (i:Nat) (out:List Int):∀y:Int×List Int,Dw jk mV bV a w c1 i out=some y→Runs Tryz.prog (.loop (nav [0,1,0,0] (ah Tryz.f215))) (vM jk mV bV a w c1 i out) ((.exit 0)) ((fun (y:Int×List Int)=>vk jk mV bV a w y.1 y.2) y):=
 aS (head:=fun (σ:Int×Nat×List Int)=>vM jk mV bV a w σ.1 σ.2.1 σ.2.2) (eo:=fun (_:Int×List Int)=>(.exit 0)) (so:=fun (y:Int×List Int)=>vk jk mV bV a w y.1 y.2) (O6 jk mV bV a w) (fun _ h=>by cases h) FU (c1,i,out)
def Bg (o0:List Int) (jk:Nat) (mV:Nat) (bV:Nat) (a:List Int) (w:Int) (c:Int):Option (List Int):=
 (Dw jk mV bV a w c 0 o0).bind fun x0=>
 bif decide (a.length<mV) then
 bif decide (plus jk a.length<x0.2.length) then
 some (x0.2.set (plus jk a.length) x0.1)
 else none
 else none
theorem TJ (o0:List Int) (jk:Nat) (mV:Nat) (bV:Nat) (a:List Int) (w:Int) (c:Int):∀r,Bg o0 jk mV bV a w c=some r→aj Tryz.prog 215 1 [.msl 0 jk (some mV) (some bV),SL (cI .u32) a,NI .u32 w,NI .u32 c] [(0,ROW 1 (cI .u32) o0 0)] (.tup []) [(0,ROW 1 (cI .u32) r 0)]:=
 ak (enc:=fun r=>.tup []) (aP:=fun r=>[(0,ROW 1 (cI .u32) r 0)]) 10 (.op 2 (.ln (cI .u32) a) (.ps 1000001 [.k [0,1,2,3,10,11,12] [0]] (.lp1 0 (P6 jk mV bV a w c 0 o0) fun x0=>.op 50004 (.ln (cI .u32) a) (.op 50008 (.el (cI .u32) x0.2 (.up a.length)) (.op 50010 (.st (cI .u32) x0.2 x0.1) (.ret (x0.2.set (plus jk a.length) x0.1))))))) Tryz.func215 (by kernel_rfl) (by kernel_rfl) (by kernel_rfl)
def C9 (a:List Int) (b:List Int) (i:Nat) (out:List Int):St:=⟨39,0,[(0,SL (cI .u32) a),(5,.msl 10 0 none (some ((a.length+b.length)+1))),(16,SL (cI .u32) b),(17,I ((b.length:Nat):Int)),(18,I ((i:Nat):Int))],[(10,ROW 1 (cI .u32) out 0)]⟩
def EP (a:List Int) (b:List Int) (out:List Int):St:=⟨39,0,[(5,.msl 10 0 none (some ((a.length+b.length)+1)))],[(10,ROW 1 (cI .u32) out 0)]⟩
def qp (a:List Int) (b:List Int) (i:Nat) (out:List Int):Option ((Nat×List Int)⊕(List Int)):=
 bif decide (((i:Nat):Int)<((b.length:Nat):Int)) then
 bif decide (i<b.length) then
 bif inK .i64 (((i:Nat):Int)+((a.length:Nat):Int)) then
 bif inK .i64 ((((i:Nat):Int)+((a.length:Nat):Int))+1) then
 bif decide (i≤(i+a.length)+1) then
 bif decide (0+((i+a.length)+1)≤(out.map (cI .u32)).length) then
 bif decide ((i+a.length)+1≤(a.length+b.length)+1) then
 bif (decide ((i+a.length)+1≤(i+a.length)+1)&&decide ((i+a.length)+1≤(a.length+b.length)+1)) then
 (Bg out i (((i+a.length)+1)-i) (((i+a.length)+1)-i) a (nth b i) 0).bind fun x0=>
 bif inK .i64 (((i:Nat):Int)+1) then
 some (.inl (i+1,x0))
 else none
 else none
 else none
 else none
 else none
 else none
 else none
 else none
 else
 some (.inr out)
theorem Xe (a:List Int) (b:List Int):∀σ:Nat×List Int,aN Tryz.prog (nav [1,1,0,1,0,0] (ah Tryz.f157)) (fun (σ:Nat×List Int)=>C9 a b σ.1 σ.2) (fun (_:List Int)=>(.exit 0)) (fun (y:List Int)=>EP a b y) σ (qp a b σ.1 σ.2)
 | (i,out)=>aF 1010 (.br 100000019 (.op 40002 (.el (cI .u32) b (.up i)) (.op 50004 (.ln (cI .u32) a) (.op 60008 (.sb (.up i) (.up ((i+a.length)+1)) (.up ((i+a.length)+1))) (.call [10] [] (TJ out i (((i+a.length)+1)-i) (((i+a.length)+1)-i) a (nth b i) 0) .no fun x0=>.ps 1000003 [.k [0,5,16,17,18] [10]] (.ret (.inl (i+1,x0))))))) (.ps 1000003 [.k [5] [10]] (.ret (.inr out)))) (by kernel_rfl)
def Fp (a:List Int) (b:List Int) (i:Nat) (out:List Int):Option (List Int):=aK (fun (σ:Nat×List Int)=>qp a b σ.1 σ.2) FU (i,out)
theorem VG (a:List Int) (b:List Int) (i:Nat) (out:List Int):∀y:List Int,Fp a b i out=some y→Runs Tryz.prog (.loop (nav [1,1,0,1,0,0] (ah Tryz.f157))) (C9 a b i out) ((.exit 0)) ((fun (y:List Int)=>EP a b y) y):=
 aS (head:=fun (σ:Nat×List Int)=>C9 a b σ.1 σ.2) (eo:=fun (_:List Int)=>(.exit 0)) (so:=fun (y:List Int)=>EP a b y) (Xe a b) (fun _ h=>by cases h) FU (i,out)
def nX (a:List Int) (b:List Int):Option (List Int):=
 bif inK .i64 (((a.length:Nat):Int)+((b.length:Nat):Int)) then
 bif inK .i64 ((((a.length:Nat):Int)+((b.length:Nat):Int))+1) then
 bif decide ((a.length+b.length)+1≤2147483648) then
 (Fp a b 0 (List.replicate ((a.length+b.length)+1) 0)).bind fun x0=>
 (ig x0).bind fun x1=>
 some x1
 else none
 else none
 else none
theorem qE (a:List Int) (b:List Int):∀r,nX a b=some r→aj Tryz.prog 157 0 [SL (cI .u32) a,SL (cI .u32) b] [] (SL (cI .u32) r) []:=
 ak (enc:=fun r=>SL (cI .u32) r) (aP:=fun r=>[]) 10 (.op 10002 (.ln (cI .u32) a) (.op 10006 (.ln (cI .u32) b) (.op 10012 (.mk (cI .u32) 0 (.up ((a.length+b.length)+1))) (.op 20002 (.ln (cI .u32) b) (.ps 1000001 [.k [0,5,16,17,18] [10]] (.lp1 0 (VG a b 0 (List.replicate ((a.length+b.length)+1) 0)) fun x0=>.call [] [] (gU x0) .no fun x1=>.ret x1)))))) Tryz.func157 (by kernel_rfl) (by kernel_rfl) (by kernel_rfl)
def DR (a:List Int) (n:Int) (x0:Int) (out:List Int) (i:Nat):St:=⟨40,0,[(0,SL (cI .u32) a),(6,I x0),(8,SL (cI .u32) out),(30,I (mnI n 1)),(31,I ((i:Nat):Int))],[]⟩
def ER (a:List Int) (n:Int) (x0:Int) (out:List Int):St:=⟨40,0,[(8,SL (cI .u32) out)],[]⟩
def jL (a:List Int) (n:Int) (x0:Int) (out:List Int) (i:Nat):Option ((List Int×Nat)⊕(List Int)):=
 bif decide (((i:Nat):Int)<(mnI n 1)) then
 bif decide (0≤x0) then
 bif decide (0≤x0.toNat) then
 bif decide (x0.toNat≤a.length) then
 (nX out (a.take x0.toNat)).bind fun x3=>
 bif inK .i64 (((i:Nat):Int)+1) then
 some (.inl (x3,i+1))
 else none
 else none
 else none
 else none
 else
 some (.inr out)
theorem Xh (a:List Int) (n:Int) (x0:Int):∀σ:List Int×Nat,aN Tryz.prog (nav [1,1,1,1,1,1,0,1,0,0] (ah Tryz.f292)) (fun (σ:List Int×Nat)=>DR a n x0 σ.1 σ.2) (fun (_:List Int)=>(.exit 0)) (fun (y:List Int)=>ER a n x0 y) σ (jL a n x0 σ.1 σ.2)
 | (out,i)=>aF 1010 (.br 100000032 (.op 100006 (.sl (cI .u32) a 1 (fun _=>rfl) (.up 0) .dn) (.call [] [] (qE out (a.take x0.toNat)) .no fun x3=>.ps 1000003 [.k [0,6,8,30,31] []] (.ret (.inl (x3,i+1))))) (.ps 1000003 [.k [8] []] (.ret (.inr out)))) (by kernel_rfl)
def zD (a:List Int) (n:Int) (x0:Int) (out:List Int) (i:Nat):Option (List Int):=aK (fun (σ:List Int×Nat)=>jL a n x0 σ.1 σ.2) FU (out,i)
theorem JY (a:List Int) (n:Int) (x0:Int) (out:List Int) (i:Nat):∀y:List Int,zD a n x0 out i=some y→Runs Tryz.prog (.loop (nav [1,1,1,1,1,1,0,1,0,0] (ah Tryz.f292))) (DR a n x0 out i) ((.exit 0)) ((fun (y:List Int)=>ER a n x0 y) y):=
 aS (head:=fun (σ:List Int×Nat)=>DR a n x0 σ.1 σ.2) (eo:=fun (_:List Int)=>(.exit 0)) (so:=fun (y:List Int)=>ER a n x0 y) (Xh a n x0) (fun _ h=>by cases h) FU (out,i)
def yH (a:List Int) (n:Int) (x0:Int) (out:List Int) (i:Nat):St:=⟨40,0,[(0,SL (cI .u32) a),(6,I x0),(8,SL (cI .u32) out),(30,I n),(31,I ((i:Nat):Int))],[]⟩
def xG (a:List Int) (n:Int) (x0:Int) (out:List Int):St:=⟨40,0,[(8,SL (cI .u32) out)],[]⟩
def lJ (a:List Int) (n:Int) (x0:Int) (out:List Int) (i:Nat):Option ((List Int×Nat)⊕(List Int)):=
 bif decide (((i:Nat):Int)<n) then
 bif decide (0≤x0) then
 bif decide (0≤x0.toNat) then
 bif decide (x0.toNat≤a.length) then
 (nX out (a.take x0.toNat)).bind fun x3=>
 bif inK .i64 (((i:Nat):Int)+1) then
 some (.inl (x3,i+1))
 else none
 else none
 else none
 else none
 else
 some (.inr out)
theorem QH (a:List Int) (n:Int) (x0:Int):∀σ:List Int×Nat,aN Tryz.prog (nav [1,1,1,1,1,1,0,1,0,0] (ah Tryz.f292)) (fun (σ:List Int×Nat)=>yH a n x0 σ.1 σ.2) (fun (_:List Int)=>(.exit 0)) (fun (y:List Int)=>xG a n x0 y) σ (lJ a n x0 σ.1 σ.2)
 | (out,i)=>aF 1010 (.br 100000032 (.op 100006 (.sl (cI .u32) a 1 (fun _=>rfl) (.up 0) .dn) (.call [] [] (qE out (a.take x0.toNat)) .no fun x3=>.ps 1000003 [.k [0,6,8,30,31] []] (.ret (.inl (x3,i+1))))) (.ps 1000003 [.k [8] []] (.ret (.inr out)))) (by kernel_rfl)
def rY (a:List Int) (n:Int) (x0:Int) (out:List Int) (i:Nat):Option (List Int):=aK (fun (σ:List Int×Nat)=>lJ a n x0 σ.1 σ.2) FU (out,i)
theorem Gx (a:List Int) (n:Int) (x0:Int) (out:List Int) (i:Nat):∀y:List Int,rY a n x0 out i=some y→Runs Tryz.prog (.loop (nav [1,1,1,1,1,1,0,1,0,0] (ah Tryz.f292))) (yH a n x0 out i) ((.exit 0)) ((fun (y:List Int)=>xG a n x0 y) y):=
 aS (head:=fun (σ:List Int×Nat)=>yH a n x0 σ.1 σ.2) (eo:=fun (_:List Int)=>(.exit 0)) (so:=fun (y:List Int)=>xG a n x0 y) (QH a n x0) (fun _ h=>by cases h) FU (out,i)
def lZ (a:List Int) (n:Int):Option (List Int×Bool):=
 (su a).bind fun x0=>
 (kH a).bind fun x1=>
 bif decide (n<0) then
 some ([],false)
 else
 bif decide (x1>1) then
 bif decide (0≤4096) then
 bif decide (0<x0) then
 bif decide (4096≤Go.Ab.hi .i64) then
 bif decide (n>(4096/x0)) then
 some ([],false)
 else
 bif !(decide (x1>1)) then
 (tH 1).bind fun x2=>
 (zD a n x0 x2 0).bind fun x3=>
 some (x3,true)
 else
 (tH 1).bind fun x2=>
 (rY a n x0 x2 0).bind fun x3=>
 some (x3,true)
 else none
 else none
 else none
 else
 bif !(decide (x1>1)) then
 (tH 1).bind fun x2=>
 (zD a n x0 x2 0).bind fun x3=>
 some (x3,true)
 else
 (tH 1).bind fun x2=>
 (rY a n x0 x2 0).bind fun x3=>
 some (x3,true)
theorem vg (a:List Int) (n:Int):∀r,lZ a n=some r→aj Tryz.prog 292 0 [SL (cI .u32) a,I n] [] (.tup [SL (cI .u32) r.1,B r.2]) []:=
 ak (enc:=fun r=>.tup [SL (cI .u32) r.1,B r.2]) (aP:=fun r=>[]) 10 (.call [] [] (pJ a) .no fun x0=>.call [] [] (uV a) .no fun x1=>.br 30006 (.ps 1000003 [.n 4] (.ret ([],false))) (.br 30010 (.br 100000024 (.ps 1000003 [.n 4] (.ret ([],false))) (.br 100000026 (.call [] [] (lW 1) .no fun x2=>.ps 1000001 [.k [0,6,8,30,31] []] (.lp1 0 (JY a n x0 x2 0) fun x3=>.ret (x3,true))) (.call [] [] (lW 1) .no fun x2=>.ps 1000001 [.k [0,6,8,30,31] []] (.lp1 0 (Gx a n x0 x2 0) fun x3=>.ret (x3,true))))) (.br 100000026 (.call [] [] (lW 1) .no fun x2=>.ps 1000001 [.k [0,6,8,30,31] []] (.lp1 0 (JY a n x0 x2 0) fun x3=>.ret (x3,true))) (.call [] [] (lW 1) .no fun x2=>.ps 1000001 [.k [0,6,8,30,31] []] (.lp1 0 (Gx a n x0 x2 0) fun x3=>.ret (x3,true)))))) Tryz.func292 (by kernel_rfl) (by kernel_rfl) (by kernel_rfl)
def yc (a:List Int) (d:Int) (r:Int) (i:Int) (q:List Int):St:=⟨37,0,[(0,SL (cI .u32) a),(1,NI .u32 d),(4,.msl 10 0 none (some a.length)),(5,NI .u32 r),(7,I i)],[(10,ROW 1 (cI .u32) q 0)]⟩
def xC (a:List Int) (d:Int) (r:Int) (q:List Int):St:=⟨37,0,[(4,.msl 10 0 none (some a.length)),(5,NI .u32 r)],[(10,ROW 1 (cI .u32) q 0)]⟩
def lV (a:List Int) (d:Int) (r:Int) (i:Int) (q:List Int):Option ((Int×Int×List Int)⊕(Int×List Int)):=
 bif decide (i≥0) then
 bif decide (0≤i) then
 bif decide (i.toNat<a.length) then
 (wE r (nth a i.toNat) d).bind fun x0=>
 bif decide (0≤i) then
 bif decide (i.toNat<q.length) then
 bif decide (i.toNat<q.length) then
 bif inK .i64 (i-1) then
 some (.inl (x0.2.1,i-1,q.set i.toNat x0.1))
 else none
 else none
 else none
 else none
 else none
 else none
 else
 some (.inr (r,q))
theorem RQ (a:List Int) (d:Int):∀σ:Int×Int×List Int,aN Tryz.prog (nav [1,1,1,0,1,0,0] (ah Tryz.f299)) (fun (σ:Int×Int×List Int)=>yc a d σ.1 σ.2.1 σ.2.2) (fun (_:Int×List Int)=>(.exit 0)) (fun (y:Int×List Int)=>xC a d y.1 y.2) σ (lV a d σ.1 σ.2.1 σ.2.2)
 | (r,i,q)=>aF 1010 (.br 100000017 (.op 70010 (.el (cI .u32) a .dn) (.call [] [] (Ko r (nth a i.toNat) d) .no fun x0=>.op 70026 (.el (cI .u32) q .dn) (.op 70028 (.st (cI .u32) q x0.1) (.ps 1000003 [.k [0,1,4,5,7] [10]] (.ret (.inl (x0.2.1,i-1,q.set i.toNat x0.1))))))) (.ps 1000003 [.k [4,5] [10]] (.ret (.inr (r,q))))) (by kernel_rfl)
def yJ (a:List Int) (d:Int) (r:Int) (i:Int) (q:List Int):Option (Int×List Int):=aK (fun (σ:Int×Int×List Int)=>lV a d σ.1 σ.2.1 σ.2.2) FU (r,i,q)
theorem Rk (a:List Int) (d:Int) (r:Int) (i:Int) (q:List Int):∀y:Int×List Int,yJ a d r i q=some y→Runs Tryz.prog (.loop (nav [1,1,1,0,1,0,0] (ah Tryz.f299))) (yc a d r i q) ((.exit 0)) ((fun (y:Int×List Int)=>xC a d y.1 y.2) y):=
 aS (head:=fun (σ:Int×Int×List Int)=>yc a d σ.1 σ.2.1 σ.2.2) (eo:=fun (_:Int×List Int)=>(.exit 0)) (so:=fun (y:Int×List Int)=>xC a d y.1 y.2) (RQ a d) (fun _ h=>by cases h) FU (r,i,q)
def mW (a:List Int) (d:Int):Option (List Int×Int×Bool):=
 bif d==0 then
 some ([],0,false)
 else
 bif decide (a.length≤2147483648) then
 bif inK .i64 (((a.length:Nat):Int)-1) then
 (yJ a d 0 (((a.length:Nat):Int)-1) (List.replicate a.length 0)).bind fun x0=>
 (ig x0.2).bind fun x1=>
 some (x1,x0.1,true)
 else none
 else none
theorem pV (a:List Int) (d:Int):∀r,mW a d=some r→aj Tryz.prog 299 0 [SL (cI .u32) a,NI .u32 d] [] (.tup [SL (cI .u32) r.1,NI .u32 r.2.1,B r.2.2]) []:=
 ak (enc:=fun r=>.tup [SL (cI .u32) r.1,NI .u32 r.2.1,B r.2.2]) (aP:=fun r=>[]) 10 (.br 100000009 (.ps 1000003 [.n 4] (.ret ([],0,false))) (.op 30002 (.ln (cI .u32) a) (.op 30004 (.mk (cI .u32) 0 (.up a.length)) (.op 40002 (.ln (cI .u32) a) (.ps 1000001 [.k [0,1,4,5,7] [10]] (.lp1 0 (Rk a d 0 (((a.length:Nat):Int)-1) (List.replicate a.length 0)) fun x0=>.call [] [] (gU x0.2) .no fun x1=>.ret (x1,x0.1,true))))))) Tryz.func299 (by kernel_rfl) (by kernel_rfl) (by kernel_rfl)
def uU (tA:List Int) (a:List Int):Option (List Int×List Int×Bool):=
 (ig a).bind fun x0=>
 bif ((x0.length:Nat):Int)==0 then
 some ([],[],false)
 else
 bif inK .i64 (((x0.length:Nat):Int)-1) then
 bif decide (0≤((x0.length:Nat):Int)-1) then
 bif decide ((((x0.length:Nat):Int)-1).toNat<x0.length) then
 (uO (nth x0 ((((x0.length:Nat):Int)-1).toNat))).bind fun x1=>
 bif inK .i64 (32-x1) then
 (zI tA (32-x1)).bind fun x2=>
 (zI x0 (32-x1)).bind fun x3=>
 bif decide (x2.length≤2147483648) then
 bif inK .i64 (((x2.length:Nat):Int)-1) then
 (zy x1 x2 x3 [] (((x2.length:Nat):Int)-1) (List.replicate x2.length 0)).bind fun x4=>
 (lZ [2] (32-x1)).bind fun x5=>
 bif decide (0<x5.1.length) then
 (mW x4.1 (nth x5.1 0)).bind fun x6=>
 (ig x4.2).bind fun x7=>
 some (x7,x6.1,true)
 else none
 else none
 else none
 else none
 else none
 else none
 else none
theorem IB (tA:List Int) (a:List Int):∀r,uU tA a=some r→aj Tryz.prog 264 0 [SL (cI .u32) tA,SL (cI .u32) a] [] (.tup [SL (cI .u32) r.1,SL (cI .u32) r.2.1,B r.2.2]) []:=
 ak (enc:=fun r=>.tup [SL (cI .u32) r.1,SL (cI .u32) r.2.1,B r.2.2]) (aP:=fun r=>[]) 10 (.call [] [] (gU a) .no fun x0=>.op 20002 (.ln (cI .u32) x0) (.br 100000015 (.ps 1000003 [.n 4,.n 5] (.ret ([],[],false))) (.op 40004 (.ln (cI .u32) x0) (.op 40008 (.el (cI .u32) x0 .dn) (.call [] [] (PV (nth x0 ((((x0.length:Nat):Int)-1).toNat))) .no fun x1=>.call [] [] (JA tA (32-x1)) .no fun x2=>.call [] [] (JA x0 (32-x1)) .no fun x3=>.op 60002 (.ln (cI .u32) x2) (.op 60004 (.mk (cI .u32) 0 (.up x2.length)) (.op 70002 (.ln (cI .u32) x2) (.ps 1000001 [.n 5,.k [0,1,4,5,7,8] [10]] (.lp1 0 (Ws x1 x2 x3 [] (((x2.length:Nat):Int)-1) (List.replicate x2.length 0)) fun x4=>.call [] [] (vg [2] (32-x1)) .no fun x5=>.op 120004 (.el (cI .u32) x5.1 (.up 0)) (.call [] [] (pV x4.1 (nth x5.1 0)) .no fun x6=>.call [] [] (gU x4.2) .no fun x7=>.ret (x7,x6.1,true))))))))))) Tryz.func264 (by kernel_rfl) (by kernel_rfl) (by kernel_rfl)
end Go.Ab.M
