import Derived.Test.YtcelliafjmmldaaGreatTA
namespace Go.Ab.M
open Go.Proofs
set_option linter.unusedVariables false
set_option maxRecDepth 100000
def FV (l:List Int) (n:Int):St:=⟨19,0,[(0,SL (cI .u32) l),(3,I n)],[]⟩
def FQ (l:List Int) (n:Int):St:=⟨19,0,[(3,I n)],[]⟩
def sS (l:List Int) (n:Int):Option (Int⊕Int):=
 bif decide (n>0) then
 bif inK .i64 (n-1) then
 bif decide (0≤n-1) then
 bif decide ((n-1).toNat<l.length) then
 bif (nth l ((n-1).toNat))==0 then
 bif inK .i64 (n-1) then
 some (.inl (n-1))
 else none
 else
 some (.inr n)
 else none
 else none
 else none
 else
 some (.inr n)
theorem XD (l:List Int):∀σ:Int,aP Tryz.prog (nav [1,1,0,0,0] (ah Tryz.f221)) (fun (σ:Int)=>FV l σ) (fun (_:Int)=>(.exit 0)) (fun (y:Int)=>FQ l y) σ (sS l σ)
 | n=>aJ 1010 (.br 20006 (.op 20012 (.el (cI .u32) l .dn) (.br 100000015 (.ps 1000003 [.k [0,3] []] (.ret (.inl (n-1)))) (.ps 1000003 [.k [3] []] (.ret (.inr n))))) (.ps 1000003 [.k [3] []] (.ret (.inr n)))) (by kernel_rfl)
def IW (l:List Int) (n:Int):Option Int:=aI (fun (σ:Int)=>sS l σ) FU n
theorem Xb (l:List Int) (n:Int):∀y:Int,IW l n=some y→Runs Tryz.prog (.loop (nav [1,1,0,0,0] (ah Tryz.f221))) (FV l n) ((.exit 0)) ((fun (y:Int)=>FQ l y) y):=
 bf (head:=fun (σ:Int)=>FV l σ) (eo:=fun (_:Int)=>(.exit 0)) (so:=fun (y:Int)=>FQ l y) (XD l) (fun _ h=>by cases h) FU n
def sN (l:List Int):Option Int:=
 (IW l ((l.length:Nat):Int)).bind fun x0=>
 some x0
theorem pU (l:List Int):∀r,sN l=some r→aj Tryz.prog 221 0 [SL (cI .u32) l] [] (I r) []:=
 au (enc:=fun r=>I r) (aQ:=fun r=>[]) 10 (.op 10002 (.ln (cI .u32) l) (.ps 1000001 [.k [0,3] []] (.lp1 0 (Xb l ((l.length:Nat):Int)) fun x0=>.ret x0))) Tryz.func221 (by kernel_rfl) (by kernel_rfl) (by kernel_rfl)
def kT (x:Int):Option Int:=
 bif decide (x≥65536) then
 bif decide ((oN .u32 x 16)≥256) then
 bif decide (0≤IntKind.wrap .u8 (oN .u32 (oN .u32 x 16) 8)) then
 bif decide ((IntKind.wrap .u8 (oN .u32 (oN .u32 x 16) 8)).toNat<nI.size) then
 bif inK .i64 ((nI.get! ((IntKind.wrap .u8 (oN .u32 (oN .u32 x 16) 8)).toNat)).toNat:Int) then
 bif inK .i64 ((16+8)+((nI.get! ((IntKind.wrap .u8 (oN .u32 (oN .u32 x 16) 8)).toNat)).toNat:Int)) then
 some ((16+8)+((nI.get! ((IntKind.wrap .u8 (oN .u32 (oN .u32 x 16) 8)).toNat)).toNat:Int))
 else none
 else none
 else none
 else none
 else
 bif decide (0≤IntKind.wrap .u8 (oN .u32 x 16)) then
 bif decide ((IntKind.wrap .u8 (oN .u32 x 16)).toNat<nI.size) then
 bif inK .i64 ((nI.get! ((IntKind.wrap .u8 (oN .u32 x 16)).toNat)).toNat:Int) then
 bif inK .i64 (16+((nI.get! ((IntKind.wrap .u8 (oN .u32 x 16)).toNat)).toNat:Int)) then
 some (16+((nI.get! ((IntKind.wrap .u8 (oN .u32 x 16)).toNat)).toNat:Int))
 else none
 else none
 else none
 else none
 else
 bif decide (x≥256) then
 bif decide (0≤IntKind.wrap .u8 (oN .u32 x 8)) then
 bif decide ((IntKind.wrap .u8 (oN .u32 x 8)).toNat<nI.size) then
 bif inK .i64 ((nI.get! ((IntKind.wrap .u8 (oN .u32 x 8)).toNat)).toNat:Int) then
 bif inK .i64 ((0+8)+((nI.get! ((IntKind.wrap .u8 (oN .u32 x 8)).toNat)).toNat:Int)) then
 some ((0+8)+((nI.get! ((IntKind.wrap .u8 (oN .u32 x 8)).toNat)).toNat:Int))
 else none
 else none
 else none
 else none
 else
 bif decide (0≤IntKind.wrap .u8 x) then
 bif decide ((IntKind.wrap .u8 x).toNat<nI.size) then
 bif inK .i64 ((nI.get! ((IntKind.wrap .u8 x).toNat)).toNat:Int) then
 bif inK .i64 (0+((nI.get! ((IntKind.wrap .u8 x).toNat)).toNat:Int)) then
 some (0+((nI.get! ((IntKind.wrap .u8 x).toNat)).toNat:Int))
 else none
 else none
 else none
 else none
theorem Ny (x:Int):∀r,kT x=some r→aj Tryz.prog 204 0 [NI .u32 x] [] (I r) []:=
 au (enc:=fun r=>I r) (aQ:=fun r=>[]) 10 (.br 100000004 (.br 100000008 (.op 70004 .wr (.op 70006 (.ch nI .dn) (.ret ((16+8)+((nI.get! ((IntKind.wrap .u8 (oN .u32 (oN .u32 x 16) 8)).toNat)).toNat:Int))))) (.op 70004 .wr (.op 70006 (.ch nI .dn) (.ret (16+((nI.get! ((IntKind.wrap .u8 (oN .u32 x 16)).toNat)).toNat:Int)))))) (.br 100000008 (.op 70004 .wr (.op 70006 (.ch nI .dn) (.ret ((0+8)+((nI.get! ((IntKind.wrap .u8 (oN .u32 x 8)).toNat)).toNat:Int))))) (.op 70004 .wr (.op 70006 (.ch nI .dn) (.ret (0+((nI.get! ((IntKind.wrap .u8 x).toNat)).toNat:Int))))))) Tryz.func204 (by kernel_rfl) (by kernel_rfl) (by kernel_rfl)
def uF (a:Int):Option Int:=
 (kT a).bind fun x0=>
 some x0
theorem O4 (a:Int):∀r,uF a=some r→aj Tryz.prog 296 0 [NI .u32 a] [] (I r) []:=
 au (enc:=fun r=>I r) (aQ:=fun r=>[]) 10 (.call [] [] (Ny a) .no fun x0=>.ret x0) Tryz.func296 (by kernel_rfl) (by kernel_rfl) (by kernel_rfl)
def lF (a:List Int):Option Int:=
 (sN a).bind fun x0=>
 bif x0==0 then
 some 0
 else
 bif inK .i64 (x0-1) then
 bif inK .i64 (32*(x0-1)) then
 bif inK .i64 (x0-1) then
 bif decide (0≤x0-1) then
 bif decide ((x0-1).toNat<a.length) then
 (uF (nth a ((x0-1).toNat))).bind fun x1=>
 bif inK .i64 ((32*(x0-1))+x1) then
 some ((32*(x0-1))+x1)
 else none
 else none
 else none
 else none
 else none
 else none
theorem uH (a:List Int):∀r,lF a=some r→aj Tryz.prog 263 0 [SL (cI .u32) a] [] (I r) []:=
 au (enc:=fun r=>I r) (aQ:=fun r=>[]) 10 (.call [] [] (pU a) .no fun x0=>.br 100000007 (.ret 0) (.op 40012 (.el (cI .u32) a .dn) (.call [] [] (O4 (nth a ((x0-1).toNat))) .no fun x1=>.ret ((32*(x0-1))+x1)))) Tryz.func263 (by kernel_rfl) (by kernel_rfl) (by kernel_rfl)
def iF (a:List Int):Option (List Int):=
 (sN a).bind fun x0=>
 bif x0==0 then
 some []
 else
 bif decide (0≤x0) then
 bif decide (x0.toNat≤2147483648) then
 some (a.take (List.replicate x0.toNat 0:List Int).length++(List.replicate x0.toNat 0:List Int).drop a.length)
 else none
 else none
theorem iw (a:List Int):∀r,iF a=some r→aj Tryz.prog 212 0 [SL (cI .u32) a] [] (SL (cI .u32) r) []:=
 au (enc:=fun r=>SL (cI .u32) r) (aQ:=fun r=>[]) 10 (.call [] [] (pU a) .no fun x0=>.br 100000008 (.ps 1000003 [.n 2] (.ret [])) (.op 40002 (.mk (cI .u32) 0 .dn) (.op 50004 (.ap (cI .u32) (List.replicate x0.toNat 0) a 1 fun _=>⟨rfl,rfl⟩) (.ps 1000003 [.z 2] (.ret (a.take (List.replicate x0.toNat 0:List Int).length++(List.replicate x0.toNat 0:List Int).drop a.length)))))) Tryz.func212 (by kernel_rfl) (by kernel_rfl) (by kernel_rfl)
def Dw (l:List Int) (n:Int) (i:Nat):St:=⟨18,0,[(3,NI .u64 n),(6,SL (cI .u32) l),(7,I ((l.length:Nat):Int)),(8,I ((i:Nat):Int))],[]⟩
def Ef (l:List Int) (n:Int):St:=⟨18,0,[(3,NI .u64 n)],[]⟩
def aY (l:List Int) (n:Int) (i:Nat):Option ((Int×Nat)⊕Int):=
 bif decide (((i:Nat):Int)<((l.length:Nat):Int)) then
 bif decide (i<l.length) then
 bif inK .u64 (nth l i) then
 bif inK .i64 (((i:Nat):Int)+1) then
 some (.inl (IntKind.wrap .u64 (n+(nth l i)),i+1))
 else none
 else none
 else none
 else
 some (.inr n)
theorem U9 (l:List Int):∀σ:Int×Nat,aP Tryz.prog (nav [1,1,0,1,0,0] (ah Tryz.f295)) (fun (σ:Int×Nat)=>Dw l σ.1 σ.2) (fun (_:Int)=>(.exit 0)) (fun (y:Int)=>Ef l y) σ (aY l σ.1 σ.2)
 | (n,i)=>aJ 1010 (.br 100000009 (.op 40000 (.el (cI .u32) l (.up i)) (.ps 1000003 [.k [3,6,7,8] []] (.ret (.inl (IntKind.wrap .u64 (n+(nth l i)),i+1))))) (.ps 1000003 [.k [3] []] (.ret (.inr n)))) (by kernel_rfl)
def nV (l:List Int) (n:Int) (i:Nat):Option Int:=aI (fun (σ:Int×Nat)=>aY l σ.1 σ.2) FU (n,i)
theorem VN (l:List Int) (n:Int) (i:Nat):∀y:Int,nV l n i=some y→Runs Tryz.prog (.loop (nav [1,1,0,1,0,0] (ah Tryz.f295))) (Dw l n i) ((.exit 0)) ((fun (y:Int)=>Ef l y) y):=
 bf (head:=fun (σ:Int×Nat)=>Dw l σ.1 σ.2) (eo:=fun (_:Int)=>(.exit 0)) (so:=fun (y:Int)=>Ef l y) (U9 l) (fun _ h=>by cases h) FU (n,i)
def mY (l:List Int):Option Int:=
 (nV l 0 0).bind fun x0=>
 some x0
theorem BU (l:List Int):∀r,mY l=some r→aj Tryz.prog 295 0 [SL (cI .u32) l] [] (NI .u64 r) []:=
 au (enc:=fun r=>NI .u64 r) (aQ:=fun r=>[]) 10 (.op 20002 (.ln (cI .u32) l) (.ps 1000001 [.k [3,6,7,8] []] (.lp1 0 (VN l 0 0) fun x0=>.ret x0))) Tryz.func295 (by kernel_rfl) (by kernel_rfl) (by kernel_rfl)
def yc (n:Int):Option (Int×Int):=
 some (IntKind.wrap .u32 (oN .u64 n 32),IntKind.wrap .u32 n)
theorem FH (n:Int):∀r,yc n=some r→aj Tryz.prog 294 0 [NI .u64 n] [] (.tup [NI .u32 r.1,NI .u32 r.2]) []:=
 au (enc:=fun r=>.tup [NI .u32 r.1,NI .u32 r.2]) (aQ:=fun r=>[]) 10 (.op 10004 .wr (.op 10008 .wr (.ret (IntKind.wrap .u32 (oN .u64 n 32),IntKind.wrap .u32 n)))) Tryz.func294 (by kernel_rfl) (by kernel_rfl) (by kernel_rfl)
def JY (a:Int) (b:Int) (c:Int) (d:Int):Option (Int×Int):=
 bif inK .u64 a then
 bif inK .u64 b then
 (mY [c,d]).bind fun x0=>
 (yc (IntKind.wrap .u64 ((IntKind.wrap .u64 (a*b))+x0))).bind fun x1=>
 some (x1.1,x1.2)
 else none
 else none
theorem Sv (a:Int) (b:Int) (c:Int) (d:Int):∀r,JY a b c d=some r→aj Tryz.prog 266 0 [NI .u32 a,NI .u32 b,NI .u32 c,NI .u32 d] [] (.tup [NI .u32 r.1,NI .u32 r.2]) []:=
 au (enc:=fun r=>.tup [NI .u32 r.1,NI .u32 r.2]) (aQ:=fun r=>[]) 10 (.call [] [] (BU [c,d]) (.yes fun _=>⟨rfl,trivial⟩) fun x0=>.call [] [] (FH (IntKind.wrap .u64 ((IntKind.wrap .u64 (a*b))+x0))) .no fun x1=>.ret (x1.1,x1.2)) Tryz.func266 (by kernel_rfl) (by kernel_rfl) (by kernel_rfl)
def zT (bP:Nat) (a:List Int) (w:Int) (c1:Int) (i:Nat) (out:List Int):St:=⟨37,1,[(0,.msl 0 0 none (some bP)),(1,SL (cI .u32) a),(2,NI .u32 w),(3,NI .u32 c1),(10,SL (cI .u32) a),(11,I ((a.length:Nat):Int)),(12,I ((i:Nat):Int))],[(0,ROW 1 (cI .u32) out 0)]⟩
def Ap (bP:Nat) (a:List Int) (w:Int) (c1:Int) (out:List Int):St:=⟨37,1,[(0,.msl 0 0 none (some bP)),(1,SL (cI .u32) a),(3,NI .u32 c1)],[(0,ROW 1 (cI .u32) out 0)]⟩
def tH (bP:Nat) (a:List Int) (w:Int) (c1:Int) (i:Nat) (out:List Int):Option ((Int×Nat×List Int)⊕(Int×List Int)):=
 bif decide (((i:Nat):Int)<((a.length:Nat):Int)) then
 bif decide (i<a.length) then
 bif decide (i<out.length) then
 bif decide (i<out.length) then
 (JY (nth a i) w (nth out i) c1).bind fun x0=>
 bif decide (i<out.length) then
 bif decide (i<out.length) then
 bif inK .i64 (((i:Nat):Int)+1) then
 some (.inl (x0.1,i+1,out.set i x0.2))
 else none
 else none
 else none
 else none
 else none
 else none
 else
 some (.inr (c1,out))
theorem TP (bP:Nat) (a:List Int) (w:Int):∀σ:Int×Nat×List Int,aP Tryz.prog (nav [0,1,0,0] (ah Tryz.f215)) (fun (σ:Int×Nat×List Int)=>zT bP a w σ.1 σ.2.1 σ.2.2) (fun (_:Int×List Int)=>(.exit 0)) (fun (y:Int×List Int)=>Ap bP a w y.1 y.2) σ (tH bP a w σ.1 σ.2.1 σ.2.2)
 | (c1,i,out)=>aJ 1010 (.br 100000013 (.op 20002 (.el (cI .u32) a (.up i)) (.op 30012 (.el (cI .u32) out (.up i)) (.op 30014 (.ld (cI .u32) out) (.call [] [] (Sv (nth a i) w (nth out i) c1) .no fun x0=>.op 30028 (.el (cI .u32) out (.up i)) (.op 30030 (.st (cI .u32) out x0.2) (.ps 1000003 [.k [0,1,2,3,10,11,12] [0]] (.ret (.inl (x0.1,i+1,out.set i x0.2))))))))) (.ps 1000003 [.k [0,1,3] [0]] (.ret (.inr (c1,out))))) (by kernel_rfl)
def Ho (bP:Nat) (a:List Int) (w:Int) (c1:Int) (i:Nat) (out:List Int):Option (Int×List Int):=aI (fun (σ:Int×Nat×List Int)=>tH bP a w σ.1 σ.2.1 σ.2.2) FU (c1,i,out)
theorem TN (bP:Nat) (a:List Int) (w:Int) (c1:Int) (i:Nat) (out:List Int):∀y:Int×List Int,Ho bP a w c1 i out=some y→Runs Tryz.prog (.loop (nav [0,1,0,0] (ah Tryz.f215))) (zT bP a w c1 i out) ((.exit 0)) ((fun (y:Int×List Int)=>Ap bP a w y.1 y.2) y):=
 bf (head:=fun (σ:Int×Nat×List Int)=>zT bP a w σ.1 σ.2.1 σ.2.2) (eo:=fun (_:Int×List Int)=>(.exit 0)) (so:=fun (y:Int×List Int)=>Ap bP a w y.1 y.2) (TP bP a w) (fun _ h=>by cases h) FU (c1,i,out)
def Ic (o0:List Int) (bP:Nat) (a:List Int) (w:Int) (c:Int):Option (List Int):=
 (Ho bP a w c 0 o0).bind fun x0=>
 bif decide (a.length<x0.2.length) then
 bif decide (a.length<x0.2.length) then
 some (x0.2.set a.length x0.1)
 else none
 else none
theorem WW (o0:List Int) (bP:Nat) (a:List Int) (w:Int) (c:Int):∀r,Ic o0 bP a w c=some r→aj Tryz.prog 215 1 [.msl 0 0 none (some bP),SL (cI .u32) a,NI .u32 w,NI .u32 c] [(0,ROW 1 (cI .u32) o0 0)] (.tup []) [(0,ROW 1 (cI .u32) r 0)]:=
 au (enc:=fun r=>.tup []) (aQ:=fun r=>[(0,ROW 1 (cI .u32) r 0)]) 10 (.op 2 (.ln (cI .u32) a) (.ps 1000001 [.k [0,1,2,3,10,11,12] [0]] (.lp1 0 (TN bP a w c 0 o0) fun x0=>.op 50004 (.ln (cI .u32) a) (.op 50008 (.el (cI .u32) x0.2 (.up a.length)) (.op 50010 (.st (cI .u32) x0.2 x0.1) (.ret (x0.2.set a.length x0.1))))))) Tryz.func215 (by kernel_rfl) (by kernel_rfl) (by kernel_rfl)
def Gs (a:List Int) (w:Int) (c:Int):Option (List Int):=
 bif inK .i64 (((a.length:Nat):Int)+1) then
 bif decide (a.length+1≤2147483648) then
 (Ic (List.replicate (a.length+1) 0) (a.length+1) a w c).bind fun x0=>
 (iF x0).bind fun x1=>
 some x1
 else none
 else none
theorem PV (a:List Int) (w:Int) (c:Int):∀r,Gs a w c=some r→aj Tryz.prog 310 0 [SL (cI .u32) a,NI .u32 w,NI .u32 c] [] (SL (cI .u32) r) []:=
 au (enc:=fun r=>SL (cI .u32) r) (aQ:=fun r=>[]) 10 (.op 10002 (.ln (cI .u32) a) (.op 10006 (.mk (cI .u32) 0 (.up (a.length+1))) (.call [10] [] (WW (List.replicate (a.length+1) 0) (a.length+1) a w c) .no fun x0=>.call [] [] (iw x0) .no fun x1=>.ret x1))) Tryz.func310 (by kernel_rfl) (by kernel_rfl) (by kernel_rfl)
def zu (a:List Int) (n:Int):Option (List Int):=
 bif decide (0≤mxI 0 (mnI n 100000)) then
 bif decide (0<32) then
 bif decide (mxI 0 (mnI n 100000)≤Go.Ab.hi .i64) then
 bif decide (0≤(mxI 0 (mnI n 100000))/32) then
 bif decide (((mxI 0 (mnI n 100000))/32).toNat≤2147483648) then
 bif decide (0≤mxI 0 (mnI n 100000)) then
 bif decide (0<32) then
 bif decide (0≤(mxI 0 (mnI n 100000))%32) then
 (Gs a (OU .u32 1 ((mxI 0 (mnI n 100000))%32)) 0).bind fun x0=>
 bif decide ((List.replicate (((mxI 0 (mnI n 100000))/32).toNat) 0:List Int).length+x0.length≤2147483648) then
 (iF ((List.replicate (((mxI 0 (mnI n 100000))/32).toNat) 0)++x0)).bind fun x1=>
 some x1
 else none
 else none
 else none
 else none
 else none
 else none
 else none
 else none
 else none
theorem KC (a:List Int) (n:Int):∀r,zu a n=some r→aj Tryz.prog 297 0 [SL (cI .u32) a,I n] [] (SL (cI .u32) r) []:=
 au (enc:=fun r=>SL (cI .u32) r) (aQ:=fun r=>[]) 10 (.op 20004 (.mk (cI .u32) 0 .dn) (.call [] [] (PV a (OU .u32 1 ((mxI 0 (mnI n 100000))%32)) 0) .no fun x0=>.op 30012 (.ap (cI .u32) (List.replicate (((mxI 0 (mnI n 100000))/32).toNat) 0) x0 1 fun _=>⟨rfl,rfl⟩) (.call [] [] (iw ((List.replicate (((mxI 0 (mnI n 100000))/32).toNat) 0)++x0)) .no fun x1=>.ret x1))) Tryz.func297 (by kernel_rfl) (by kernel_rfl) (by kernel_rfl)
def wI (hi:Int) (lo:Int) (d:Int):Option (Int×Int×Bool):=
 bif decide (hi≥d) then
 some (0,0,false)
 else
 bif inK .u64 hi then
 bif inK .u64 lo then
 bif inK .u64 d then
 bif decide (0≤YK .u64 (OU .u64 hi 32) lo) then
 bif decide (0<d) then
 bif decide (YK .u64 (OU .u64 hi 32) lo≤Go.Ab.hi .u64) then
 bif inK .u64 d then
 bif decide (0≤YK .u64 (OU .u64 hi 32) lo) then
 bif decide (0<d) then
 some (IntKind.wrap .u32 ((YK .u64 (OU .u64 hi 32) lo)/d),IntKind.wrap .u32 ((YK .u64 (OU .u64 hi 32) lo)%d),true)
 else none
 else none
 else none
 else none
 else none
 else none
 else none
 else none
 else none
theorem Js (hi:Int) (lo:Int) (d:Int):∀r,wI hi lo d=some r→aj Tryz.prog 312 0 [NI .u32 hi,NI .u32 lo,NI .u32 d] [] (.tup [NI .u32 r.1,NI .u32 r.2.1,B r.2.2]) []:=
 au (enc:=fun r=>.tup [NI .u32 r.1,NI .u32 r.2.1,B r.2.2]) (aQ:=fun r=>[]) 10 (.br 100000012 (.ret (0,0,false)) (.op 40008 .wr (.op 40018 .wr (.ret (IntKind.wrap .u32 ((YK .u64 (OU .u64 hi 32) lo)/d),IntKind.wrap .u32 ((YK .u64 (OU .u64 hi 32) lo)%d),true))))) Tryz.func312 (by kernel_rfl) (by kernel_rfl) (by kernel_rfl)
def pW (rest:List Int) (b:List Int):Option Int:=
 bif decide (((rest.length:Nat):Int)<((b.length:Nat):Int)) then
 some 0
 else
 bif decide (((rest.length:Nat):Int)>((b.length:Nat):Int)) then
 bif decide (b.length<rest.length) then
 bif inK .i64 (((b.length:Nat):Int)-1) then
 bif decide (0≤((b.length:Nat):Int)-1) then
 bif decide ((((b.length:Nat):Int)-1).toNat<rest.length) then
 bif inK .i64 (((b.length:Nat):Int)-1) then
 bif decide (0≤((b.length:Nat):Int)-1) then
 bif decide ((((b.length:Nat):Int)-1).toNat<b.length) then
 (wI (nth rest b.length) (nth rest ((((b.length:Nat):Int)-1).toNat)) (nth b ((((b.length:Nat):Int)-1).toNat))).bind fun x0=>
 bif !x0.2.2 then
 some 4294967295
 else
 some x0.1
 else none
 else none
 else none
 else none
 else none
 else none
 else none
 else
 bif inK .i64 (((b.length:Nat):Int)-1) then
 bif decide (0≤((b.length:Nat):Int)-1) then
 bif decide ((((b.length:Nat):Int)-1).toNat<rest.length) then
 bif inK .i64 (((b.length:Nat):Int)-1) then
 bif decide (0≤((b.length:Nat):Int)-1) then
 bif decide ((((b.length:Nat):Int)-1).toNat<b.length) then
 (wI 0 (nth rest ((((b.length:Nat):Int)-1).toNat)) (nth b ((((b.length:Nat):Int)-1).toNat))).bind fun x0=>
 bif !x0.2.2 then
 some 4294967295
 else
 some x0.1
 else none
 else none
 else none
 else none
 else none
 else none
theorem Vp (rest:List Int) (b:List Int):∀r,pW rest b=some r→aj Tryz.prog 311 0 [SL (cI .u32) rest,SL (cI .u32) b] [] (NI .u32 r) []:=
 au (enc:=fun r=>NI .u32 r) (aQ:=fun r=>[]) 10 (.op 10002 (.ln (cI .u32) b) (.op 20002 (.ln (cI .u32) rest) (.br 100000015 (.ret 0) (.op 50002 (.ln (cI .u32) rest) (.br 100000019 (.op 60004 (.el (cI .u32) rest (.up b.length)) (.op 70008 (.el (cI .u32) rest .dn) (.op 70018 (.el (cI .u32) b .dn) (.call [] [] (Js (nth rest b.length) (nth rest ((((b.length:Nat):Int)-1).toNat)) (nth b ((((b.length:Nat):Int)-1).toNat))) .no fun x0=>.br 100000041 (.ret 4294967295) (.ret x0.1))))) (.op 70008 (.el (cI .u32) rest .dn) (.op 70018 (.el (cI .u32) b .dn) (.call [] [] (Js 0 (nth rest ((((b.length:Nat):Int)-1).toNat)) (nth b ((((b.length:Nat):Int)-1).toNat))) .no fun x0=>.br 100000041 (.ret 4294967295) (.ret x0.1))))))))) Tryz.func311 (by kernel_rfl) (by kernel_rfl) (by kernel_rfl)
def qQ (x:Int):Option Bool:=
 some (x != x)
theorem AO (x:Int):∀r,qQ x=some r→aj Tryz.prog 301 0 [NI .u32 x] [] (B r) []:=
 au (enc:=fun r=>B r) (aQ:=fun r=>[]) 10 (.ret (x != x)) Tryz.func301 (by kernel_rfl) (by kernel_rfl) (by kernel_rfl)
def og (x:Int) (y:Int):Option Int:=
 (qQ x).bind fun x0=>
 (qQ y).bind fun x1=>
 bif x0 then
 bif x1 then
 some 0
 else
 some (-1)
 else
 bif x1 then
 some 1
 else
 bif decide (x<y) then
 some (-1)
 else
 bif decide (x>y) then
 some 1
 else
 some 0
theorem Jg (x:Int) (y:Int):∀r,og x y=some r→aj Tryz.prog 270 0 [NI .u32 x,NI .u32 y] [] (I r) []:=
 au (enc:=fun r=>I r) (aQ:=fun r=>[]) 10 (.call [] [] (AO x) .no fun x0=>.call [] [] (AO y) .no fun x1=>.br 100000011 (.br 100000012 (.ret 0) (.ret (-1))) (.br 100000013 (.ret 1) (.br 100000016 (.ret (-1)) (.br 100000019 (.ret 1) (.ret 0))))) Tryz.func270 (by kernel_rfl) (by kernel_rfl) (by kernel_rfl)
def Il (a:List Int) (b:List Int) (x0:Int) (i:Nat):St:=⟨41,0,[(0,SL (cI .u32) a),(1,SL (cI .u32) b),(5,I x0),(18,I x0),(19,I ((i:Nat):Int))],[]⟩
def Hw (a:List Int) (b:List Int) (x0:Int) (i:Int):St:=⟨41,0,[(4,I i)],[]⟩
def He (a:List Int) (b:List Int) (x0:Int):St:=⟨41,0,[],[]⟩
def jE (a:List Int) (b:List Int) (x0:Int) (i:Nat):Option (Nat⊕(Int⊕Unit)):=
 bif decide (((i:Nat):Int)<x0) then
 bif inK .i64 (x0-1) then
 bif inK .i64 ((x0-1)-((i:Nat):Int)) then
 bif decide (0≤(x0-1)-((i:Nat):Int)) then
 bif decide (((x0-1)-((i:Nat):Int)).toNat<a.length) then
 bif inK .i64 (x0-1) then
 bif inK .i64 ((x0-1)-((i:Nat):Int)) then
 bif decide (0≤(x0-1)-((i:Nat):Int)) then
 bif decide (((x0-1)-((i:Nat):Int)).toNat<b.length) then
 (og (nth a (((x0-1)-((i:Nat):Int)).toNat)) (nth b (((x0-1)-((i:Nat):Int)).toNat))).bind fun x3=>
 bif x3 != 0 then
 some (.inr (.inl x3))
 else
 bif inK .i64 (((i:Nat):Int)+1) then
 some (.inl (i+1))
 else none
 else none
 else none
 else none
 else none
 else none
 else none
 else none
 else none
 else
 some (.inr (.inr ()))
theorem Zl (a:List Int) (b:List Int) (x0:Int):∀σ:Nat,aP Tryz.prog (nav [1,1,1,0,1,0,0] (ah Tryz.f222)) (fun (σ:Nat)=>Il a b x0 σ) (fun (y:Int⊕Unit)=>aK y (fun _=>.ret) (fun _=>(.exit 0))) (fun (y:Int⊕Unit)=>aK y (fun y=>Hw a b x0 y) (fun y=>He a b x0)) σ (jE a b x0 σ)
 | i=>aJ 1010 (.br 100000020 (.op 80010 (.el (cI .u32) a .dn) (.op 80024 (.el (cI .u32) b .dn) (.call [] [] (Jg (nth a (((x0-1)-((i:Nat):Int)).toNat)) (nth b (((x0-1)-((i:Nat):Int)).toNat))) .no fun x3=>.br 100000038 (.ps 1000003 [.k [4] []] (.ret (.inr (.inl x3)))) (.ps 1000003 [.k [0,1,5,18,19] []] (.ret (.inl (i+1))))))) (.ps 1000003 [.k [] []] (.ret (.inr (.inr ()))))) (by kernel_rfl)
def Lr (a:List Int) (b:List Int) (x0:Int) (i:Nat):Option (Int⊕Unit):=aI (fun (σ:Nat)=>jE a b x0 σ) FU i
theorem Zr (a:List Int) (b:List Int) (x0:Int) (i:Nat):∀y:Int⊕Unit,Lr a b x0 i=some y→Runs Tryz.prog (.loop (nav [1,1,1,0,1,0,0] (ah Tryz.f222))) (Il a b x0 i) (aK y (fun _=>.ret) (fun _=>(.exit 0))) ((fun (y:Int⊕Unit)=>aK y (fun y=>Hw a b x0 y) (fun y=>He a b x0)) y):=
 bf (head:=fun (σ:Nat)=>Il a b x0 σ) (eo:=fun (y:Int⊕Unit)=>aK y (fun _=>.ret) (fun _=>(.exit 0))) (so:=fun (y:Int⊕Unit)=>aK y (fun y=>Hw a b x0 y) (fun y=>He a b x0)) (Zl a b x0) (fun y h=>by rcases y with y | y<;>cases h) FU i
def Oh (a:List Int) (b:List Int):Option Int:=
 (sN a).bind fun x0=>
 (sN b).bind fun x1=>
 (cmp_Compare_int x0 x1).bind fun x2=>
 bif x2 != 0 then
 some x2
 else
 (Lr a b x0 0).bind fun y_=>aK y_ (fun x3=>
 some x3)
 (fun x4=>
 some 0)
theorem U2 (a:List Int) (b:List Int):∀r,Oh a b=some r→aj Tryz.prog 222 0 [SL (cI .u32) a,SL (cI .u32) b] [] (I r) []:=
 au (enc:=fun r=>I r) (aQ:=fun r=>[]) 10 (.call [] [] (pU a) .no fun x0=>.call [] [] (pU b) .no fun x1=>.call [] [] (kC x0 x1) .no fun x2=>.br 100000016 (.ret x2) (.ps 1000001 [.k [0,1,5,18,19] []] (.lp2 0 (Zr a b x0 0) (fun x3=>.ret x3) (fun x4=>.ret 0)))) Tryz.func222 (by kernel_rfl) (by kernel_rfl) (by kernel_rfl)
def NR (a:List Int) (i:Int):Option Int:=
 bif decide (i<((a.length:Nat):Int)) then
 bif decide (0≤i) then
 bif decide (i.toNat<a.length) then
 some (nth a i.toNat)
 else none
 else none
 else
 some 0
theorem Ru (a:List Int) (i:Int):∀r,NR a i=some r→aj Tryz.prog 262 0 [SL (cI .u32) a,I i] [] (NI .u32 r) []:=
 au (enc:=fun r=>NI .u32 r) (aQ:=fun r=>[]) 10 (.op 10004 (.ln (cI .u32) a) (.br 100000008 (.op 20004 (.el (cI .u32) a .dn) (.ret (nth a i.toNat))) (.ret 0))) Tryz.func262 (by kernel_rfl) (by kernel_rfl) (by kernel_rfl)
def N8 (a:Int) (b:Int) (c:Int):Option (Int×Int):=
 (mY [b,c]).bind fun x0=>
 bif inK .u64 a then
 (mY [IntKind.wrap .u32 (IntKind.wrap .u64 (a-x0))]).bind fun x1=>
 (yc (IntKind.wrap .u64 (x1+x0))).bind fun x2=>
 some (IntKind.wrap .u32 (IntKind.wrap .u64 (a-x0)),x2.1)
 else none
theorem aa2 (a:Int) (b:Int) (c:Int):∀r,N8 a b c=some r→aj Tryz.prog 300 0 [NI .u32 a,NI .u32 b,NI .u32 c] [] (.tup [NI .u32 r.1,NI .u32 r.2]) []:=
 au (enc:=fun r=>.tup [NI .u32 r.1,NI .u32 r.2]) (aQ:=fun r=>[]) 10 (.call [] [] (BU [b,c]) (.yes fun _=>⟨rfl,trivial⟩) fun x0=>.op 20008 .wr (.call [] [] (BU [IntKind.wrap .u32 (IntKind.wrap .u64 (a-x0))]) (.yes fun _=>⟨rfl,trivial⟩) fun x1=>.call [] [] (FH (IntKind.wrap .u64 (x1+x0))) .no fun x2=>.ret (IntKind.wrap .u32 (IntKind.wrap .u64 (a-x0)),x2.1))) Tryz.func300 (by kernel_rfl) (by kernel_rfl) (by kernel_rfl)
def HY (a:List Int) (b:List Int) (x1:Int) (borrow:Int) (i:Nat) (out:List Int):St:=⟨40,0,[(0,SL (cI .u32) a),(1,SL (cI .u32) b),(7,.msl 10 0 none (some x1.toNat)),(8,NI .u32 borrow),(18,I x1),(19,I ((i:Nat):Int))],[(10,ROW 1 (cI .u32) out 0)]⟩
def IE (a:List Int) (b:List Int) (x1:Int) (out:List Int):St:=⟨40,0,[(7,.msl 10 0 none (some x1.toNat))],[(10,ROW 1 (cI .u32) out 0)]⟩
def vM (a:List Int) (b:List Int) (x1:Int) (borrow:Int) (i:Nat) (out:List Int):Option ((Int×Nat×List Int)⊕(List Int)):=
 bif decide (((i:Nat):Int)<x1) then
 bif decide (i<a.length) then
 (NR b ((i:Nat):Int)).bind fun x2=>
 (N8 (nth a i) x2 borrow).bind fun x3=>
 bif decide (i<out.length) then
 bif decide (i<out.length) then
 bif inK .i64 (((i:Nat):Int)+1) then
 some (.inl (x3.2,i+1,out.set i x3.1))
 else none
 else none
 else none
 else none
 else
 some (.inr out)
theorem YA (a:List Int) (b:List Int) (x1:Int):∀σ:Int×Nat×List Int,aP Tryz.prog (nav [1,1,1,1,1,0,1,0,0] (ah Tryz.f265)) (fun (σ:Int×Nat×List Int)=>HY a b x1 σ.1 σ.2.1 σ.2.2) (fun (_:List Int)=>(.exit 0)) (fun (y:List Int)=>IE a b x1 y) σ (vM a b x1 σ.1 σ.2.1 σ.2.2)
 | (borrow,i,out)=>aJ 1010 (.br 100000020 (.op 90008 (.el (cI .u32) a (.up i)) (.call [] [] (Ru b ((i:Nat):Int)) .no fun x2=>.call [] [] (aa2 (nth a i) x2 borrow) .no fun x3=>.op 90028 (.el (cI .u32) out (.up i)) (.op 90030 (.st (cI .u32) out x3.1) (.ps 1000003 [.k [0,1,7,8,18,19] [10]] (.ret (.inl (x3.2,i+1,out.set i x3.1))))))) (.ps 1000003 [.k [7] [10]] (.ret (.inr out)))) (by kernel_rfl)
def Lj (a:List Int) (b:List Int) (x1:Int) (borrow:Int) (i:Nat) (out:List Int):Option (List Int):=aI (fun (σ:Int×Nat×List Int)=>vM a b x1 σ.1 σ.2.1 σ.2.2) FU (borrow,i,out)
theorem Zv (a:List Int) (b:List Int) (x1:Int) (borrow:Int) (i:Nat) (out:List Int):∀y:List Int,Lj a b x1 borrow i out=some y→Runs Tryz.prog (.loop (nav [1,1,1,1,1,0,1,0,0] (ah Tryz.f265))) (HY a b x1 borrow i out) ((.exit 0)) ((fun (y:List Int)=>IE a b x1 y) y):=
 bf (head:=fun (σ:Int×Nat×List Int)=>HY a b x1 σ.1 σ.2.1 σ.2.2) (eo:=fun (_:List Int)=>(.exit 0)) (so:=fun (y:List Int)=>IE a b x1 y) (YA a b x1) (fun _ h=>by cases h) FU (borrow,i,out)
def Lm (a:List Int) (b:List Int):Option (List Int×Bool):=
 (Oh a b).bind fun x0=>
 bif decide (x0<0) then
 some ([],false)
 else
 (sN a).bind fun x1=>
 bif decide (0≤x1) then
 bif decide (x1.toNat≤2147483648) then
 (Lj a b x1 0 0 (List.replicate x1.toNat 0)).bind fun x2=>
 (iF x2).bind fun x3=>
 some (x3,true)
 else none
 else none
theorem NV (a:List Int) (b:List Int):∀r,Lm a b=some r→aj Tryz.prog 265 0 [SL (cI .u32) a,SL (cI .u32) b] [] (.tup [SL (cI .u32) r.1,B r.2]) []:=
 au (enc:=fun r=>.tup [SL (cI .u32) r.1,B r.2]) (aQ:=fun r=>[]) 10 (.call [] [] (U2 a b) .no fun x0=>.br 100000013 (.ps 1000003 [.n 4] (.ret ([],false))) (.call [] [] (pU a) .no fun x1=>.op 40002 (.mk (cI .u32) 0 .dn) (.ps 1000001 [.k [0,1,7,8,18,19] [10]] (.lp1 0 (Zv a b x1 0 0 (List.replicate x1.toNat 0)) fun x2=>.call [] [] (iw x2) .no fun x3=>.ret (x3,true))))) Tryz.func265 (by kernel_rfl) (by kernel_rfl) (by kernel_rfl)
def wZ (rest:List Int) (b:List Int) (q:Int):St:=⟨26,0,[(0,SL (cI .u32) rest),(1,SL (cI .u32) b),(6,NI .u32 q)],[]⟩
def xX (rest:List Int) (b:List Int) (aiV:List Int) (q:Int):St:=⟨26,0,[(0,SL (cI .u32) aiV),(6,NI .u32 q)],[]⟩
def mQ (rest:List Int) (b:List Int) (q:Int):Option (Int⊕(List Int×Int)):=
 (Gs b q 0).bind fun x1=>
 (Lm rest x1).bind fun x2=>
 bif x2.2 then
 some (.inr (x2.1,q))
 else
 some (.inl (IntKind.wrap .u32 (q-1)))
theorem Qy (rest:List Int) (b:List Int):∀σ:Int,aP Tryz.prog (nav [1,0,1,1,0,0,0] (ah Tryz.f298)) (fun (σ:Int)=>wZ rest b σ) (fun (_:List Int×Int)=>(.exit 0)) (fun (y:List Int×Int)=>xX rest b y.1 y.2) σ (mQ rest b σ)
 | q=>aJ 1010 (.call [] [] (PV b q 0) .no fun x1=>.call [] [] (NV rest x1) .no fun x2=>.br 100000020 (.ps 1000003 [.k [0,6] []] (.ret (.inr (x2.1,q)))) (.ps 1000003 [.k [0,1,6] []] (.ret (.inl (IntKind.wrap .u32 (q-1)))))) (by kernel_rfl)
def yH (rest:List Int) (b:List Int) (q:Int):Option (List Int×Int):=aI (fun (σ:Int)=>mQ rest b σ) FU q
theorem Qj (rest:List Int) (b:List Int) (q:Int):∀y:List Int×Int,yH rest b q=some y→Runs Tryz.prog (.loop (nav [1,0,1,1,0,0,0] (ah Tryz.f298))) (wZ rest b q) ((.exit 0)) ((fun (y:List Int×Int)=>xX rest b y.1 y.2) y):=
 bf (head:=fun (σ:Int)=>wZ rest b σ) (eo:=fun (_:List Int×Int)=>(.exit 0)) (so:=fun (y:List Int×Int)=>xX rest b y.1 y.2) (Qy rest b) (fun _ h=>by cases h) FU q
def zn (rest:List Int) (b:List Int):Option (Int×List Int):=
 (pW rest b).bind fun x0=>
 (yH rest b x0).bind fun x1=>
 some (x1.2,x1.1)
theorem VY (rest:List Int) (b:List Int):∀r,zn rest b=some r→aj Tryz.prog 298 0 [SL (cI .u32) rest,SL (cI .u32) b] [] (.tup [NI .u32 r.1,SL (cI .u32) r.2]) []:=
 au (enc:=fun r=>.tup [NI .u32 r.1,SL (cI .u32) r.2]) (aQ:=fun r=>[]) 10 (.call [] [] (Vp rest b) .no fun x0=>.ps 1000001 [.k [0,1,6] []] (.lp1 0 (Qj rest b x0) fun x1=>.ret (x1.2,x1.1))) Tryz.func298 (by kernel_rfl) (by kernel_rfl) (by kernel_rfl)
def Dz (x1:Int) (x2:List Int) (x3:List Int) (i:List Int) (i1:Int) (o:List Int):St:=⟨74,0,[(0,SL (cI .u32) x2),(1,SL (cI .u32) x3),(4,.msl 10 0 none (some x2.length)),(5,SL (cI .u32) i),(7,I (32-x1)),(8,I i1)],[(10,ROW 1 (cI .u32) o 0)]⟩
def Em (x1:Int) (x2:List Int) (x3:List Int) (i:List Int) (o:List Int):St:=⟨74,0,[(4,.msl 10 0 none (some x2.length)),(5,SL (cI .u32) i),(7,I (32-x1))],[(10,ROW 1 (cI .u32) o 0)]⟩
def pK (x1:Int) (x2:List Int) (x3:List Int) (i:List Int) (i1:Int) (o:List Int):Option ((List Int×Int×List Int)⊕(List Int×List Int)):=
 bif decide (i1≥0) then
 bif decide (0≤i1) then
 bif decide (i1.toNat<x2.length) then
 bif decide (1+i.length≤2147483648) then
 (iF ([nth x2 i1.toNat]++i)).bind fun x4=>
 (zn x4 x3).bind fun x5=>
 bif decide (0≤i1) then
 bif decide (i1.toNat<o.length) then
 bif decide (i1.toNat<o.length) then
 bif inK .i64 (i1-1) then
 some (.inl (x5.2,i1-1,o.set i1.toNat x5.1))
 else none
 else none
 else none
 else none
 else none
 else none
 else none
 else
 some (.inr (i,o))
theorem V4 (x1:Int) (x2:List Int) (x3:List Int):∀σ:List Int×Int×List Int,aP Tryz.prog (nav [1,1,1,1,1,1,0,1,0,0] (ah Tryz.f264)) (fun (σ:List Int×Int×List Int)=>Dz x1 x2 x3 σ.1 σ.2.1 σ.2.2) (fun (_:List Int×List Int)=>(.exit 0)) (fun (y:List Int×List Int)=>Em x1 x2 x3 y.1 y.2) σ (pK x1 x2 x3 σ.1 σ.2.1 σ.2.2)
 | (i,i1,o)=>aJ 1010 (.br 100000037 (.op 100008 (.el (cI .u32) x2 .dn) (.op 100016 (.ap (cI .u32) [nth x2 i1.toNat] i 1 fun _=>⟨rfl,rfl⟩) (.call [] [] (iw ([nth x2 i1.toNat]++i)) .no fun x4=>.call [] [] (VY x4 x3) .no fun x5=>.op 100030 (.el (cI .u32) o .dn) (.op 100032 (.st (cI .u32) o x5.1) (.ps 1000003 [.k [0,1,4,5,7,8] [10]] (.ret (.inl (x5.2,i1-1,o.set i1.toNat x5.1)))))))) (.ps 1000003 [.k [4,5,7] [10]] (.ret (.inr (i,o))))) (by kernel_rfl)
def zG (x1:Int) (x2:List Int) (x3:List Int) (i:List Int) (i1:Int) (o:List Int):Option (List Int×List Int):=aI (fun (σ:List Int×Int×List Int)=>pK x1 x2 x3 σ.1 σ.2.1 σ.2.2) FU (i,i1,o)
theorem UH (x1:Int) (x2:List Int) (x3:List Int) (i:List Int) (i1:Int) (o:List Int):∀y:List Int×List Int,zG x1 x2 x3 i i1 o=some y→Runs Tryz.prog (.loop (nav [1,1,1,1,1,1,0,1,0,0] (ah Tryz.f264))) (Dz x1 x2 x3 i i1 o) ((.exit 0)) ((fun (y:List Int×List Int)=>Em x1 x2 x3 y.1 y.2) y):=
 bf (head:=fun (σ:List Int×Int×List Int)=>Dz x1 x2 x3 σ.1 σ.2.1 σ.2.2) (eo:=fun (_:List Int×List Int)=>(.exit 0)) (so:=fun (y:List Int×List Int)=>Em x1 x2 x3 y.1 y.2) (V4 x1 x2 x3) (fun _ h=>by cases h) FU (i,i1,o)
def tY (n:Int):Option (List Int):=
 (iF [IntKind.wrap .u32 n,IntKind.wrap .u32 (oN .u64 n 32)]).bind fun x0=>
 some x0
theorem mO (n:Int):∀r,tY n=some r→aj Tryz.prog 151 0 [NI .u64 n] [] (SL (cI .u32) r) []:=
 au (enc:=fun r=>SL (cI .u32) r) (aQ:=fun r=>[]) 10 (.op 10002 .wr (.op 10008 .wr (.call [] [] (iw [IntKind.wrap .u32 n,IntKind.wrap .u32 (oN .u64 n 32)]) .no fun x0=>.ret x0))) Tryz.func151 (by kernel_rfl) (by kernel_rfl) (by kernel_rfl)
def vX (jJ:Nat) (nP:Nat) (bP:Nat) (a:List Int) (w:Int) (c1:Int) (i:Nat) (out:List Int):St:=⟨37,1,[(0,.msl 0 jJ (some nP) (some bP)),(1,SL (cI .u32) a),(2,NI .u32 w),(3,NI .u32 c1),(10,SL (cI .u32) a),(11,I ((a.length:Nat):Int)),(12,I ((i:Nat):Int))],[(0,ROW 1 (cI .u32) out 0)]⟩
def wC (jJ:Nat) (nP:Nat) (bP:Nat) (a:List Int) (w:Int) (c1:Int) (out:List Int):St:=⟨37,1,[(0,.msl 0 jJ (some nP) (some bP)),(1,SL (cI .u32) a),(3,NI .u32 c1)],[(0,ROW 1 (cI .u32) out 0)]⟩
def gI (jJ:Nat) (nP:Nat) (bP:Nat) (a:List Int) (w:Int) (c1:Int) (i:Nat) (out:List Int):Option ((Int×Nat×List Int)⊕(Int×List Int)):=
 bif decide (((i:Nat):Int)<((a.length:Nat):Int)) then
 bif decide (i<a.length) then
 bif decide (i<nP) then
 bif decide (plus jJ i<out.length) then
 (JY (nth a i) w (nth out (plus jJ i)) c1).bind fun x0=>
 bif decide (i<nP) then
 bif decide (plus jJ i<out.length) then
 bif inK .i64 (((i:Nat):Int)+1) then
 some (.inl (x0.1,i+1,out.set (plus jJ i) x0.2))
 else none
 else none
 else none
 else none
 else none
 else none
 else
 some (.inr (c1,out))
theorem Oi (jJ:Nat) (nP:Nat) (bP:Nat) (a:List Int) (w:Int):∀σ:Int×Nat×List Int,aP Tryz.prog (nav [0,1,0,0] (ah Tryz.f215)) (fun (σ:Int×Nat×List Int)=>vX jJ nP bP a w σ.1 σ.2.1 σ.2.2) (fun (_:Int×List Int)=>(.exit 0)) (fun (y:Int×List Int)=>wC jJ nP bP a w y.1 y.2) σ (gI jJ nP bP a w σ.1 σ.2.1 σ.2.2)
 | (c1,i,out)=>aJ 1010 (.br 100000013 (.op 20002 (.el (cI .u32) a (.up i)) (.op 30012 (.el (cI .u32) out (.up i)) (.op 30014 (.ld (cI .u32) out) (.call [] [] (Sv (nth a i) w (nth out (plus jJ i)) c1) .no fun x0=>.op 30028 (.el (cI .u32) out (.up i)) (.op 30030 (.st (cI .u32) out x0.2) (.ps 1000003 [.k [0,1,2,3,10,11,12] [0]] (.ret (.inl (x0.1,i+1,out.set (plus jJ i) x0.2))))))))) (.ps 1000003 [.k [0,1,3] [0]] (.ret (.inr (c1,out))))) (by kernel_rfl)
def DZ (jJ:Nat) (nP:Nat) (bP:Nat) (a:List Int) (w:Int) (c1:Int) (i:Nat) (out:List Int):Option (Int×List Int):=aI (fun (σ:Int×Nat×List Int)=>gI jJ nP bP a w σ.1 σ.2.1 σ.2.2) FU (c1,i,out)
theorem O3 (jJ:Nat) (nP:Nat) (bP:Nat) (a:List Int) (w:Int) (c1:Int) (i:Nat) (out:List Int):∀y:Int×List Int,DZ jJ nP bP a w c1 i out=some y→Runs Tryz.prog (.loop (nav [0,1,0,0] (ah Tryz.f215))) (vX jJ nP bP a w c1 i out) ((.exit 0)) ((fun (y:Int×List Int)=>wC jJ nP bP a w y.1 y.2) y):=
 bf (head:=fun (σ:Int×Nat×List Int)=>vX jJ nP bP a w σ.1 σ.2.1 σ.2.2) (eo:=fun (_:Int×List Int)=>(.exit 0)) (so:=fun (y:Int×List Int)=>wC jJ nP bP a w y.1 y.2) (Oi jJ nP bP a w) (fun _ h=>by cases h) FU (c1,i,out)
def BF (o0:List Int) (jJ:Nat) (nP:Nat) (bP:Nat) (a:List Int) (w:Int) (c:Int):Option (List Int):=
 (DZ jJ nP bP a w c 0 o0).bind fun x0=>
 bif decide (a.length<nP) then
 bif decide (plus jJ a.length<x0.2.length) then
 some (x0.2.set (plus jJ a.length) x0.1)
 else none
 else none
theorem TT (o0:List Int) (jJ:Nat) (nP:Nat) (bP:Nat) (a:List Int) (w:Int) (c:Int):∀r,BF o0 jJ nP bP a w c=some r→aj Tryz.prog 215 1 [.msl 0 jJ (some nP) (some bP),SL (cI .u32) a,NI .u32 w,NI .u32 c] [(0,ROW 1 (cI .u32) o0 0)] (.tup []) [(0,ROW 1 (cI .u32) r 0)]:=
 au (enc:=fun r=>.tup []) (aQ:=fun r=>[(0,ROW 1 (cI .u32) r 0)]) 10 (.op 2 (.ln (cI .u32) a) (.ps 1000001 [.k [0,1,2,3,10,11,12] [0]] (.lp1 0 (O3 jJ nP bP a w c 0 o0) fun x0=>.op 50004 (.ln (cI .u32) a) (.op 50008 (.el (cI .u32) x0.2 (.up a.length)) (.op 50010 (.st (cI .u32) x0.2 x0.1) (.ret (x0.2.set (plus jJ a.length) x0.1))))))) Tryz.func215 (by kernel_rfl) (by kernel_rfl) (by kernel_rfl)
def DJ (a:List Int) (b:List Int) (i:Nat) (out:List Int):St:=⟨39,0,[(0,SL (cI .u32) a),(5,.msl 10 0 none (some ((a.length+b.length)+1))),(16,SL (cI .u32) b),(17,I ((b.length:Nat):Int)),(18,I ((i:Nat):Int))],[(10,ROW 1 (cI .u32) out 0)]⟩
def Ey (a:List Int) (b:List Int) (out:List Int):St:=⟨39,0,[(5,.msl 10 0 none (some ((a.length+b.length)+1)))],[(10,ROW 1 (cI .u32) out 0)]⟩
def qI (a:List Int) (b:List Int) (i:Nat) (out:List Int):Option ((Nat×List Int)⊕(List Int)):=
 bif decide (((i:Nat):Int)<((b.length:Nat):Int)) then
 bif decide (i<b.length) then
 bif inK .i64 (((i:Nat):Int)+((a.length:Nat):Int)) then
 bif inK .i64 ((((i:Nat):Int)+((a.length:Nat):Int))+1) then
 bif decide (i≤(i+a.length)+1) then
 bif decide (0+((i+a.length)+1)≤(out.map (cI .u32)).length) then
 bif decide ((i+a.length)+1≤(a.length+b.length)+1) then
 bif (decide ((i+a.length)+1≤(i+a.length)+1)&&decide ((i+a.length)+1≤(a.length+b.length)+1)) then
 (BF out i (((i+a.length)+1)-i) (((i+a.length)+1)-i) a (nth b i) 0).bind fun x0=>
 bif inK .i64 (((i:Nat):Int)+1) then
 some (.inl (i+1,x0))
 else none
 else none
 else none
 else none
 else none
 else none
 else none
 else none
 else
 some (.inr out)
theorem VL (a:List Int) (b:List Int):∀σ:Nat×List Int,aP Tryz.prog (nav [1,1,0,1,0,0] (ah Tryz.f157)) (fun (σ:Nat×List Int)=>DJ a b σ.1 σ.2) (fun (_:List Int)=>(.exit 0)) (fun (y:List Int)=>Ey a b y) σ (qI a b σ.1 σ.2)
 | (i,out)=>aJ 1010 (.br 100000019 (.op 40002 (.el (cI .u32) b (.up i)) (.op 50004 (.ln (cI .u32) a) (.op 60008 (.sb (.up i) (.up ((i+a.length)+1)) (.up ((i+a.length)+1))) (.call [10] [] (TT out i (((i+a.length)+1)-i) (((i+a.length)+1)-i) a (nth b i) 0) .no fun x0=>.ps 1000003 [.k [0,5,16,17,18] [10]] (.ret (.inl (i+1,x0))))))) (.ps 1000003 [.k [5] [10]] (.ret (.inr out)))) (by kernel_rfl)
def Fa (a:List Int) (b:List Int) (i:Nat) (out:List Int):Option (List Int):=aI (fun (σ:Nat×List Int)=>qI a b σ.1 σ.2) FU (i,out)
theorem VH (a:List Int) (b:List Int) (i:Nat) (out:List Int):∀y:List Int,Fa a b i out=some y→Runs Tryz.prog (.loop (nav [1,1,0,1,0,0] (ah Tryz.f157))) (DJ a b i out) ((.exit 0)) ((fun (y:List Int)=>Ey a b y) y):=
 bf (head:=fun (σ:Nat×List Int)=>DJ a b σ.1 σ.2) (eo:=fun (_:List Int)=>(.exit 0)) (so:=fun (y:List Int)=>Ey a b y) (VL a b) (fun _ h=>by cases h) FU (i,out)
def oZ (a:List Int) (b:List Int):Option (List Int):=
 bif inK .i64 (((a.length:Nat):Int)+((b.length:Nat):Int)) then
 bif inK .i64 ((((a.length:Nat):Int)+((b.length:Nat):Int))+1) then
 bif decide ((a.length+b.length)+1≤2147483648) then
 (Fa a b 0 (List.replicate ((a.length+b.length)+1) 0)).bind fun x0=>
 (iF x0).bind fun x1=>
 some x1
 else none
 else none
 else none
theorem rF (a:List Int) (b:List Int):∀r,oZ a b=some r→aj Tryz.prog 157 0 [SL (cI .u32) a,SL (cI .u32) b] [] (SL (cI .u32) r) []:=
 au (enc:=fun r=>SL (cI .u32) r) (aQ:=fun r=>[]) 10 (.op 10002 (.ln (cI .u32) a) (.op 10006 (.ln (cI .u32) b) (.op 10012 (.mk (cI .u32) 0 (.up ((a.length+b.length)+1))) (.op 20002 (.ln (cI .u32) b) (.ps 1000001 [.k [0,5,16,17,18] [10]] (.lp1 0 (VH a b 0 (List.replicate ((a.length+b.length)+1) 0)) fun x0=>.call [] [] (iw x0) .no fun x1=>.ret x1)))))) Tryz.func157 (by kernel_rfl) (by kernel_rfl) (by kernel_rfl)
def Dj (a:List Int) (n:Int) (x0:Int) (out:List Int) (i:Nat):St:=⟨40,0,[(0,SL (cI .u32) a),(6,I x0),(8,SL (cI .u32) out),(30,I (mnI n 1)),(31,I ((i:Nat):Int))],[]⟩
def DF (a:List Int) (n:Int) (x0:Int) (out:List Int):St:=⟨40,0,[(8,SL (cI .u32) out)],[]⟩
def jZ (a:List Int) (n:Int) (x0:Int) (out:List Int) (i:Nat):Option ((List Int×Nat)⊕(List Int)):=
 bif decide (((i:Nat):Int)<(mnI n 1)) then
 bif decide (0≤x0) then
 bif decide (0≤x0.toNat) then
 bif decide (x0.toNat≤a.length) then
 (oZ out (a.take x0.toNat)).bind fun x3=>
 bif inK .i64 (((i:Nat):Int)+1) then
 some (.inl (x3,i+1))
 else none
 else none
 else none
 else none
 else
 some (.inr out)
theorem WE (a:List Int) (n:Int) (x0:Int):∀σ:List Int×Nat,aP Tryz.prog (nav [1,1,1,1,1,1,0,1,0,0] (ah Tryz.f292)) (fun (σ:List Int×Nat)=>Dj a n x0 σ.1 σ.2) (fun (_:List Int)=>(.exit 0)) (fun (y:List Int)=>DF a n x0 y) σ (jZ a n x0 σ.1 σ.2)
 | (out,i)=>aJ 1010 (.br 100000032 (.op 100006 (.sl (cI .u32) a 1 (fun _=>rfl) (.up 0) .dn) (.call [] [] (rF out (a.take x0.toNat)) .no fun x3=>.ps 1000003 [.k [0,6,8,30,31] []] (.ret (.inl (x3,i+1))))) (.ps 1000003 [.k [8] []] (.ret (.inr out)))) (by kernel_rfl)
def zJ (a:List Int) (n:Int) (x0:Int) (out:List Int) (i:Nat):Option (List Int):=aI (fun (σ:List Int×Nat)=>jZ a n x0 σ.1 σ.2) FU (out,i)
theorem KO (a:List Int) (n:Int) (x0:Int) (out:List Int) (i:Nat):∀y:List Int,zJ a n x0 out i=some y→Runs Tryz.prog (.loop (nav [1,1,1,1,1,1,0,1,0,0] (ah Tryz.f292))) (Dj a n x0 out i) ((.exit 0)) ((fun (y:List Int)=>DF a n x0 y) y):=
 bf (head:=fun (σ:List Int×Nat)=>Dj a n x0 σ.1 σ.2) (eo:=fun (_:List Int)=>(.exit 0)) (so:=fun (y:List Int)=>DF a n x0 y) (WE a n x0) (fun _ h=>by cases h) FU (out,i)
def xC (a:List Int) (n:Int) (x0:Int) (out:List Int) (i:Nat):St:=⟨40,0,[(0,SL (cI .u32) a),(6,I x0),(8,SL (cI .u32) out),(30,I n),(31,I ((i:Nat):Int))],[]⟩
def xE (a:List Int) (n:Int) (x0:Int) (out:List Int):St:=⟨40,0,[(8,SL (cI .u32) out)],[]⟩
def nG (a:List Int) (n:Int) (x0:Int) (out:List Int) (i:Nat):Option ((List Int×Nat)⊕(List Int)):=
 bif decide (((i:Nat):Int)<n) then
 bif decide (0≤x0) then
 bif decide (0≤x0.toNat) then
 bif decide (x0.toNat≤a.length) then
 (oZ out (a.take x0.toNat)).bind fun x3=>
 bif inK .i64 (((i:Nat):Int)+1) then
 some (.inl (x3,i+1))
 else none
 else none
 else none
 else none
 else
 some (.inr out)
theorem Qx (a:List Int) (n:Int) (x0:Int):∀σ:List Int×Nat,aP Tryz.prog (nav [1,1,1,1,1,1,0,1,0,0] (ah Tryz.f292)) (fun (σ:List Int×Nat)=>xC a n x0 σ.1 σ.2) (fun (_:List Int)=>(.exit 0)) (fun (y:List Int)=>xE a n x0 y) σ (nG a n x0 σ.1 σ.2)
 | (out,i)=>aJ 1010 (.br 100000032 (.op 100006 (.sl (cI .u32) a 1 (fun _=>rfl) (.up 0) .dn) (.call [] [] (rF out (a.take x0.toNat)) .no fun x3=>.ps 1000003 [.k [0,6,8,30,31] []] (.ret (.inl (x3,i+1))))) (.ps 1000003 [.k [8] []] (.ret (.inr out)))) (by kernel_rfl)
def sW (a:List Int) (n:Int) (x0:Int) (out:List Int) (i:Nat):Option (List Int):=aI (fun (σ:List Int×Nat)=>nG a n x0 σ.1 σ.2) FU (out,i)
theorem Gu (a:List Int) (n:Int) (x0:Int) (out:List Int) (i:Nat):∀y:List Int,sW a n x0 out i=some y→Runs Tryz.prog (.loop (nav [1,1,1,1,1,1,0,1,0,0] (ah Tryz.f292))) (xC a n x0 out i) ((.exit 0)) ((fun (y:List Int)=>xE a n x0 y) y):=
 bf (head:=fun (σ:List Int×Nat)=>xC a n x0 σ.1 σ.2) (eo:=fun (_:List Int)=>(.exit 0)) (so:=fun (y:List Int)=>xE a n x0 y) (Qx a n x0) (fun _ h=>by cases h) FU (out,i)
def nH (a:List Int) (n:Int):Option (List Int×Bool):=
 (sN a).bind fun x0=>
 (lF a).bind fun x1=>
 bif decide (n<0) then
 some ([],false)
 else
 bif decide (x1>1) then
 bif decide (0≤4096) then
 bif decide (0<x0) then
 bif decide (4096≤Go.Ab.hi .i64) then
 bif decide (n>(4096/x0)) then
 some ([],false)
 else
 bif !(decide (x1>1)) then
 (tY 1).bind fun x2=>
 (zJ a n x0 x2 0).bind fun x3=>
 some (x3,true)
 else
 (tY 1).bind fun x2=>
 (sW a n x0 x2 0).bind fun x3=>
 some (x3,true)
 else none
 else none
 else none
 else
 bif !(decide (x1>1)) then
 (tY 1).bind fun x2=>
 (zJ a n x0 x2 0).bind fun x3=>
 some (x3,true)
 else
 (tY 1).bind fun x2=>
 (sW a n x0 x2 0).bind fun x3=>
 some (x3,true)
theorem vW (a:List Int) (n:Int):∀r,nH a n=some r→aj Tryz.prog 292 0 [SL (cI .u32) a,I n] [] (.tup [SL (cI .u32) r.1,B r.2]) []:=
 au (enc:=fun r=>.tup [SL (cI .u32) r.1,B r.2]) (aQ:=fun r=>[]) 10 (.call [] [] (pU a) .no fun x0=>.call [] [] (uH a) .no fun x1=>.br 30006 (.ps 1000003 [.n 4] (.ret ([],false))) (.br 30010 (.br 100000024 (.ps 1000003 [.n 4] (.ret ([],false))) (.br 100000026 (.call [] [] (mO 1) .no fun x2=>.ps 1000001 [.k [0,6,8,30,31] []] (.lp1 0 (KO a n x0 x2 0) fun x3=>.ret (x3,true))) (.call [] [] (mO 1) .no fun x2=>.ps 1000001 [.k [0,6,8,30,31] []] (.lp1 0 (Gu a n x0 x2 0) fun x3=>.ret (x3,true))))) (.br 100000026 (.call [] [] (mO 1) .no fun x2=>.ps 1000001 [.k [0,6,8,30,31] []] (.lp1 0 (KO a n x0 x2 0) fun x3=>.ret (x3,true))) (.call [] [] (mO 1) .no fun x2=>.ps 1000001 [.k [0,6,8,30,31] []] (.lp1 0 (Gu a n x0 x2 0) fun x3=>.ret (x3,true)))))) Tryz.func292 (by kernel_rfl) (by kernel_rfl) (by kernel_rfl)
def xU (a:List Int) (d:Int) (r:Int) (i:Int) (q:List Int):St:=⟨37,0,[(0,SL (cI .u32) a),(1,NI .u32 d),(4,.msl 10 0 none (some a.length)),(5,NI .u32 r),(7,I i)],[(10,ROW 1 (cI .u32) q 0)]⟩
def xR (a:List Int) (d:Int) (r:Int) (q:List Int):St:=⟨37,0,[(4,.msl 10 0 none (some a.length)),(5,NI .u32 r)],[(10,ROW 1 (cI .u32) q 0)]⟩
def mJ (a:List Int) (d:Int) (r:Int) (i:Int) (q:List Int):Option ((Int×Int×List Int)⊕(Int×List Int)):=
 bif decide (i≥0) then
 bif decide (0≤i) then
 bif decide (i.toNat<a.length) then
 (wI r (nth a i.toNat) d).bind fun x0=>
 bif decide (0≤i) then
 bif decide (i.toNat<q.length) then
 bif decide (i.toNat<q.length) then
 bif inK .i64 (i-1) then
 some (.inl (x0.2.1,i-1,q.set i.toNat x0.1))
 else none
 else none
 else none
 else none
 else none
 else none
 else
 some (.inr (r,q))
theorem Qu (a:List Int) (d:Int):∀σ:Int×Int×List Int,aP Tryz.prog (nav [1,1,1,0,1,0,0] (ah Tryz.f299)) (fun (σ:Int×Int×List Int)=>xU a d σ.1 σ.2.1 σ.2.2) (fun (_:Int×List Int)=>(.exit 0)) (fun (y:Int×List Int)=>xR a d y.1 y.2) σ (mJ a d σ.1 σ.2.1 σ.2.2)
 | (r,i,q)=>aJ 1010 (.br 100000017 (.op 70010 (.el (cI .u32) a .dn) (.call [] [] (Js r (nth a i.toNat) d) .no fun x0=>.op 70026 (.el (cI .u32) q .dn) (.op 70028 (.st (cI .u32) q x0.1) (.ps 1000003 [.k [0,1,4,5,7] [10]] (.ret (.inl (x0.2.1,i-1,q.set i.toNat x0.1))))))) (.ps 1000003 [.k [4,5] [10]] (.ret (.inr (r,q))))) (by kernel_rfl)
def yM (a:List Int) (d:Int) (r:Int) (i:Int) (q:List Int):Option (Int×List Int):=aI (fun (σ:Int×Int×List Int)=>mJ a d σ.1 σ.2.1 σ.2.2) FU (r,i,q)
theorem Ri (a:List Int) (d:Int) (r:Int) (i:Int) (q:List Int):∀y:Int×List Int,yM a d r i q=some y→Runs Tryz.prog (.loop (nav [1,1,1,0,1,0,0] (ah Tryz.f299))) (xU a d r i q) ((.exit 0)) ((fun (y:Int×List Int)=>xR a d y.1 y.2) y):=
 bf (head:=fun (σ:Int×Int×List Int)=>xU a d σ.1 σ.2.1 σ.2.2) (eo:=fun (_:Int×List Int)=>(.exit 0)) (so:=fun (y:Int×List Int)=>xR a d y.1 y.2) (Qu a d) (fun _ h=>by cases h) FU (r,i,q)
def nU (a:List Int) (d:Int):Option (List Int×Int×Bool):=
 bif d==0 then
 some ([],0,false)
 else
 bif decide (a.length≤2147483648) then
 bif inK .i64 (((a.length:Nat):Int)-1) then
 (yM a d 0 (((a.length:Nat):Int)-1) (List.replicate a.length 0)).bind fun x0=>
 (iF x0.2).bind fun x1=>
 some (x1,x0.1,true)
 else none
 else none
theorem qc (a:List Int) (d:Int):∀r,nU a d=some r→aj Tryz.prog 299 0 [SL (cI .u32) a,NI .u32 d] [] (.tup [SL (cI .u32) r.1,NI .u32 r.2.1,B r.2.2]) []:=
 au (enc:=fun r=>.tup [SL (cI .u32) r.1,NI .u32 r.2.1,B r.2.2]) (aQ:=fun r=>[]) 10 (.br 100000009 (.ps 1000003 [.n 4] (.ret ([],0,false))) (.op 30002 (.ln (cI .u32) a) (.op 30004 (.mk (cI .u32) 0 (.up a.length)) (.op 40002 (.ln (cI .u32) a) (.ps 1000001 [.k [0,1,4,5,7] [10]] (.lp1 0 (Ri a d 0 (((a.length:Nat):Int)-1) (List.replicate a.length 0)) fun x0=>.call [] [] (iw x0.2) .no fun x1=>.ret (x1,x0.1,true))))))) Tryz.func299 (by kernel_rfl) (by kernel_rfl) (by kernel_rfl)
def uI (tA:List Int) (a:List Int):Option (List Int×List Int×Bool):=
 (iF a).bind fun x0=>
 bif ((x0.length:Nat):Int)==0 then
 some ([],[],false)
 else
 bif inK .i64 (((x0.length:Nat):Int)-1) then
 bif decide (0≤((x0.length:Nat):Int)-1) then
 bif decide ((((x0.length:Nat):Int)-1).toNat<x0.length) then
 (uF (nth x0 ((((x0.length:Nat):Int)-1).toNat))).bind fun x1=>
 bif inK .i64 (32-x1) then
 (zu tA (32-x1)).bind fun x2=>
 (zu x0 (32-x1)).bind fun x3=>
 bif decide (x2.length≤2147483648) then
 bif inK .i64 (((x2.length:Nat):Int)-1) then
 (zG x1 x2 x3 [] (((x2.length:Nat):Int)-1) (List.replicate x2.length 0)).bind fun x4=>
 (nH [2] (32-x1)).bind fun x5=>
 bif decide (0<x5.1.length) then
 (nU x4.1 (nth x5.1 0)).bind fun x6=>
 (iF x4.2).bind fun x7=>
 some (x7,x6.1,true)
 else none
 else none
 else none
 else none
 else none
 else none
 else none
theorem Ih (tA:List Int) (a:List Int):∀r,uI tA a=some r→aj Tryz.prog 264 0 [SL (cI .u32) tA,SL (cI .u32) a] [] (.tup [SL (cI .u32) r.1,SL (cI .u32) r.2.1,B r.2.2]) []:=
 au (enc:=fun r=>.tup [SL (cI .u32) r.1,SL (cI .u32) r.2.1,B r.2.2]) (aQ:=fun r=>[]) 10 (.call [] [] (iw a) .no fun x0=>.op 20002 (.ln (cI .u32) x0) (.br 100000015 (.ps 1000003 [.n 4,.n 5] (.ret ([],[],false))) (.op 40004 (.ln (cI .u32) x0) (.op 40008 (.el (cI .u32) x0 .dn) (.call [] [] (O4 (nth x0 ((((x0.length:Nat):Int)-1).toNat))) .no fun x1=>.call [] [] (KC tA (32-x1)) .no fun x2=>.call [] [] (KC x0 (32-x1)) .no fun x3=>.op 60002 (.ln (cI .u32) x2) (.op 60004 (.mk (cI .u32) 0 (.up x2.length)) (.op 70002 (.ln (cI .u32) x2) (.ps 1000001 [.n 5,.k [0,1,4,5,7,8] [10]] (.lp1 0 (UH x1 x2 x3 [] (((x2.length:Nat):Int)-1) (List.replicate x2.length 0)) fun x4=>.call [] [] (vW [2] (32-x1)) .no fun x5=>.op 120004 (.el (cI .u32) x5.1 (.up 0)) (.call [] [] (qc x4.1 (nth x5.1 0)) .no fun x6=>.call [] [] (iw x4.2) .no fun x7=>.ret (x7,x6.1,true))))))))))) Tryz.func264 (by kernel_rfl) (by kernel_rfl) (by kernel_rfl)
end Go.Ab.M
