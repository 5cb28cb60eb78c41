import Derived.Test.YtcelliafjmmldaaGreatTE
namespace Go.Ab.M
open Go.Proofs
set_option linter.unusedVariables false
set_option maxRecDepth 100000
def DZ (a:List Int) (b:List Int) (out:List Int) (carry:Int) (i:Nat):St:=⟨37,0,[(0,SL (cI .u32) a),(1,SL (cI .u32) b),(5,bI 100017 out),(6,NI .u64 carry),(7,I ((i:Nat):Int))],[(100017,bM 1 (cI .u32) out)]⟩
def Ew (a:List Int) (b:List Int) (out:List Int):St:=⟨37,0,[(5,bI 100017 out)],[(100017,bM 1 (cI .u32) out)]⟩
def mG (a:List Int) (b:List Int) (out:List Int) (carry:Int) (i:Nat):Option ((List Int×Int×Nat)⊕(List Int)):=
 bif decide (((i:Nat):Int)≤(mxI ((a.length:Nat):Int) ((b.length:Nat):Int))) then
 (nT a ((i:Nat):Int)).bind fun x0=>
 (nT b ((i:Nat):Int)).bind fun x1=>
 bif decide (0≤IntKind.wrap .u64 ((IntKind.wrap .u64 (x0+x1))+carry)) then
 bif decide (0<4294967296) then
 bif decide (out.length+1≤2147483648) then
 bif decide (0≤IntKind.wrap .u64 ((IntKind.wrap .u64 (x0+x1))+carry)) then
 bif decide (0<4294967296) then
 bif decide (IntKind.wrap .u64 ((IntKind.wrap .u64 (x0+x1))+carry)≤Go.Ab.hi .u64) then
 bif inK .i64 (((i:Nat):Int)+1) then
 some (.inl (out++[IntKind.wrap .u32 ((IntKind.wrap .u64 ((IntKind.wrap .u64 (x0+x1))+carry))%4294967296)],(IntKind.wrap .u64 ((IntKind.wrap .u64 (x0+x1))+carry))/4294967296,i+1))
 else none
 else none
 else none
 else none
 else none
 else none
 else none
 else
 some (.inr out)
theorem Vx (a:List Int) (b:List Int):∀σ:List Int×Int×Nat,aN Tryz.prog (nav [1,1,1,0,1,0,0] (ah Tryz.f161)) (fun (σ:List Int×Int×Nat)=>DZ a b σ.1 σ.2.1 σ.2.2) (fun (_:List Int)=>(.exit 0)) (fun (y:List Int)=>Ew a b y) σ (mG a b σ.1 σ.2.1 σ.2.2)
 | ([],carry,i)=>aF 1010 (.op 40004 (.ln (cI .u32) a) (.op 40008 (.ln (cI .u32) b) (.br 100000015 (.call [] [] (gQ a ((i:Nat):Int)) .no fun x0=>.call [] [] (gQ b ((i:Nat):Int)) .no fun x1=>.op 70006 .wr (.op 70010 (.ap (cI .u32) [] [IntKind.wrap .u32 ((IntKind.wrap .u64 ((IntKind.wrap .u64 (x0+x1))+carry))%4294967296)] 1 fun _=>⟨rfl,rfl⟩) (.ps 1000003 [.k [0,1,5,6,7] [1011],.m 1011 100017] (.ret (.inl ([IntKind.wrap .u32 ((IntKind.wrap .u64 ((IntKind.wrap .u64 (x0+x1))+carry))%4294967296)],(IntKind.wrap .u64 ((IntKind.wrap .u64 (x0+x1))+carry))/4294967296,i+1)))))) (.ps 1000003 [.k [5] [100017]] (.ret (.inr [])))))) (by kernel_rfl)
 | (dP::dO,carry,i)=>aF 1010 (.op 40004 (.ln (cI .u32) a) (.op 40008 (.ln (cI .u32) b) (.br 100000015 (.call [] [] (gQ a ((i:Nat):Int)) .no fun x0=>.call [] [] (gQ b ((i:Nat):Int)) .no fun x1=>.op 70006 .wr (.op 70010 (.ap (cI .u32) (dP::dO) [IntKind.wrap .u32 ((IntKind.wrap .u64 ((IntKind.wrap .u64 (x0+x1))+carry))%4294967296)] 1 fun _=>⟨rfl,rfl⟩) (.ps 1000003 [.k [0,1,5,6,7] [1011],.m 1011 100017] (.ret (.inl ((dP::dO)++[IntKind.wrap .u32 ((IntKind.wrap .u64 ((IntKind.wrap .u64 (x0+x1))+carry))%4294967296)],(IntKind.wrap .u64 ((IntKind.wrap .u64 (x0+x1))+carry))/4294967296,i+1)))))) (.ps 1000003 [.k [5] [100017]] (.ret (.inr (dP::dO))))))) (by kernel_rfl)
def Fq (a:List Int) (b:List Int) (out:List Int) (carry:Int) (i:Nat):Option (List Int):=aK (fun (σ:List Int×Int×Nat)=>mG a b σ.1 σ.2.1 σ.2.2) FU (out,carry,i)
theorem V9 (a:List Int) (b:List Int) (out:List Int) (carry:Int) (i:Nat):∀y:List Int,Fq a b out carry i=some y→Runs Tryz.prog (.loop (nav [1,1,1,0,1,0,0] (ah Tryz.f161))) (DZ a b out carry i) ((.exit 0)) ((fun (y:List Int)=>Ew a b y) y):=
 aS (head:=fun (σ:List Int×Int×Nat)=>DZ a b σ.1 σ.2.1 σ.2.2) (eo:=fun (_:List Int)=>(.exit 0)) (so:=fun (y:List Int)=>Ew a b y) (Vx a b) (fun _ h=>by cases h) FU (out,carry,i)
def Gp (a:List Int) (b:List Int):Option (List Int):=
 (Fq a b [] 0 0).bind fun x0=>
 (gJ x0).bind fun x1=>
 some x1
theorem O5 (a:List Int) (b:List Int):∀r,Gp a b=some r→aj Tryz.prog 161 0 [SL (cI .u32) a,SL (cI .u32) b] [] (SL (cI .u32) r) []:=
 ak (enc:=fun r=>SL (cI .u32) r) (aP:=fun r=>[]) 10 (.ps 1000001 [.k [0,1,5,6,7] [100017]] (.lp1 0 (V9 a b [] 0 0) fun x0=>.oz 1 5 100017 1 (cI .u32) x0 (.ps 1 [.k [5] []] (.call [] [] (fC x0) .no fun x1=>.ret x1)))) Tryz.func161 (by kernel_rfl) (by kernel_rfl) (by kernel_rfl)
def DX (a:List Int) (b:List Int) (out:List Int) (i:Nat):St:=⟨27,0,[(0,SL (cI .u32) a),(1,SL (cI .u32) b),(5,SL (cI .u32) out),(6,I ((i:Nat):Int))],[]⟩
def Dv (a:List Int) (b:List Int) (out:List Int):St:=⟨27,0,[(5,SL (cI .u32) out)],[]⟩
def pX (a:List Int) (b:List Int) (out:List Int) (i:Nat):Option ((List Int×Nat)⊕(List Int)):=
 bif decide (((i:Nat):Int)<((b.length:Nat):Int)) then
 bif decide (i≤2147483648) then
 bif decide (i<b.length) then
 (jy a (nth b i) 0).bind fun x0=>
 bif decide ((List.replicate i 0:List Int).length+x0.length≤2147483648) then
 (Gp out ((List.replicate i 0)++x0)).bind fun x1=>
 bif inK .i64 (((i:Nat):Int)+1) then
 some (.inl (x1,i+1))
 else none
 else none
 else none
 else none
 else
 some (.inr out)
theorem WI (a:List Int) (b:List Int):∀σ:List Int×Nat,aN Tryz.prog (nav [1,1,0,1,0,0] (ah Tryz.f100)) (fun (σ:List Int×Nat)=>DX a b σ.1 σ.2) (fun (_:List Int)=>(.exit 0)) (fun (y:List Int)=>Dv a b y) σ (pX a b σ.1 σ.2)
 | (out,i)=>aF 1010 (.op 30004 (.ln (cI .u32) b) (.br 100000011 (.op 50002 (.mk (cI .u32) 0 (.up i)) (.op 50010 (.el (cI .u32) b (.up i)) (.call [] [] (wI a (nth b i) 0) .no fun x0=>.op 50016 (.ap (cI .u32) (List.replicate i 0) x0 1 fun _=>⟨rfl,rfl⟩) (.call [] [] (O5 out ((List.replicate i 0)++x0)) .no fun x1=>.ps 1000003 [.k [0,1,5,6] []] (.ret (.inl (x1,i+1))))))) (.ps 1000003 [.k [5] []] (.ret (.inr out))))) (by kernel_rfl)
def Fz (a:List Int) (b:List Int) (out:List Int) (i:Nat):Option (List Int):=aK (fun (σ:List Int×Nat)=>pX a b σ.1 σ.2) FU (out,i)
theorem Wn (a:List Int) (b:List Int) (out:List Int) (i:Nat):∀y:List Int,Fz a b out i=some y→Runs Tryz.prog (.loop (nav [1,1,0,1,0,0] (ah Tryz.f100))) (DX a b out i) ((.exit 0)) ((fun (y:List Int)=>Dv a b y) y):=
 aS (head:=fun (σ:List Int×Nat)=>DX a b σ.1 σ.2) (eo:=fun (_:List Int)=>(.exit 0)) (so:=fun (y:List Int)=>Dv a b y) (WI a b) (fun _ h=>by cases h) FU (out,i)
def xO (a:List Int) (b:List Int):Option (List Int):=
 (Fz a b [] 0).bind fun x0=>
 some x0
theorem Bc (a:List Int) (b:List Int):∀r,xO a b=some r→aj Tryz.prog 100 0 [SL (cI .u32) a,SL (cI .u32) b] [] (SL (cI .u32) r) []:=
 ak (enc:=fun r=>SL (cI .u32) r) (aP:=fun r=>[]) 10 (.ps 1000001 [.n 5,.k [0,1,5,6] []] (.lp1 0 (Wn a b [] 0) fun x0=>.ret x0)) Tryz.func100 (by kernel_rfl) (by kernel_rfl) (by kernel_rfl)
def xq (a:Whole):Option Whole:=
 (gJ a.Mag).bind fun x0=>
 bif a.Neg then
 some (Whole.mk (decide (((x0.length:Nat):Int)>0)) x0)
 else
 some (Whole.mk false x0)
theorem Bo (a:Whole):∀r,xq a=some r→aj Tryz.prog 160 0 [AG Whole.D a] [] (AG Whole.D r) []:=
 ak (enc:=fun r=>AG Whole.D r) (aP:=fun r=>[]) 10 (.call [] [] (fC a.Mag) .no fun x0=>.br 20006 (.op 20008 (.ln (cI .u32) x0) (.ret (Whole.mk (decide (((x0.length:Nat):Int)>0)) x0))) (.ret (Whole.mk false x0))) Tryz.func160 (by kernel_rfl) (by kernel_rfl) (by kernel_rfl)
def CQ (a:Whole) (b:Whole):Option Whole:=
 bif a.Neg==b.Neg then
 (Gp a.Mag b.Mag).bind fun x0=>
 (xq (Whole.mk a.Neg x0)).bind fun x1=>
 some x1
 else
 (uF a.Mag b.Mag).bind fun x0=>
 bif decide (x0≥0) then
 (uG a.Mag b.Mag).bind fun x1=>
 (xq (Whole.mk a.Neg x1.1)).bind fun x2=>
 some x2
 else
 (uG b.Mag a.Mag).bind fun x1=>
 (xq (Whole.mk b.Neg x1.1)).bind fun x2=>
 some x2
theorem Zh (a:Whole) (b:Whole):∀r,CQ a b=some r→aj Tryz.prog 98 0 [AG Whole.D a,AG Whole.D b] [] (AG Whole.D r) []:=
 ak (enc:=fun r=>AG Whole.D r) (aP:=fun r=>[]) 10 (.br 100000013 (.call [] [] (O5 a.Mag b.Mag) .no fun x0=>.call [] [] (Bo (Whole.mk a.Neg x0)) .no fun x1=>.ret x1) (.call [] [] (wF a.Mag b.Mag) .no fun x0=>.br 100000028 (.call [] [] (wu a.Mag b.Mag) .no fun x1=>.call [] [] (Bo (Whole.mk a.Neg x1.1)) .no fun x2=>.ret x2) (.call [] [] (wu b.Mag a.Mag) .no fun x1=>.call [] [] (Bo (Whole.mk b.Neg x1.1)) .no fun x2=>.ret x2))) Tryz.func98 (by kernel_rfl) (by kernel_rfl) (by kernel_rfl)
def Lj (a:Whole) (b:Whole):Option Whole:=
 (xO a.Mag b.Mag).bind fun x0=>
 (xq (Whole.mk (!(a.Neg==b.Neg)) x0)).bind fun x1=>
 some x1
theorem ZA (a:Whole) (b:Whole):∀r,Lj a b=some r→aj Tryz.prog 164 0 [AG Whole.D a,AG Whole.D b] [] (AG Whole.D r) []:=
 ak (enc:=fun r=>AG Whole.D r) (aP:=fun r=>[]) 10 (.call [] [] (Bc a.Mag b.Mag) .no fun x0=>.call [] [] (Bo (Whole.mk (!(a.Neg==b.Neg)) x0)) .no fun x1=>.ret x1) Tryz.func164 (by kernel_rfl) (by kernel_rfl) (by kernel_rfl)
def fP (a:Rat):Option Rat:=
 (kR (Whole.mk a.Neg a.Num) a.Den).bind fun x0=>
 some x0
theorem dN (a:Rat):∀r,fP a=some r→aj Tryz.prog 95 0 [AG Rat.D a] [] (AG Rat.D r) []:=
 ak (enc:=fun r=>AG Rat.D r) (aP:=fun r=>[]) 10 (.call [] [] (nP (Whole.mk a.Neg a.Num) a.Den) .no fun x0=>.ret x0) Tryz.func95 (by kernel_rfl) (by kernel_rfl) (by kernel_rfl)
def xI (a:List Int) (b:List Int) (i:Nat):St:=⟨26,0,[(0,SL (cI .u32) a),(1,SL (cI .u32) b),(5,I ((i:Nat):Int))],[]⟩
def yF (a:List Int) (b:List Int):St:=⟨26,0,[(4,B false)],[]⟩
def xQ (a:List Int) (b:List Int):St:=⟨26,0,[],[]⟩
def eY (a:List Int) (b:List Int) (i:Nat):Option (Nat⊕(Unit⊕Unit)):=
 bif decide (((i:Nat):Int)<((a.length:Nat):Int)) then
 bif decide (i<a.length) then
 bif decide (i<b.length) then
 bif (nth a i) != (nth b i) then
 some (.inr (.inl ()))
 else
 bif inK .i64 (((i:Nat):Int)+1) then
 some (.inl (i+1))
 else none
 else none
 else none
 else
 some (.inr (.inr ()))
theorem QJ (a:List Int) (b:List Int):∀σ:Nat,aN Tryz.prog (nav [1,1,0,1,0,0] (ah Tryz.f101)) (fun (σ:Nat)=>xI a b σ) (fun (y:Unit⊕Unit)=>aH y (fun _=>.ret) (fun _=>(.exit 0))) (fun (y:Unit⊕Unit)=>aH y (fun y=>yF a b) (fun y=>xQ a b)) σ (eY a b σ)
 | i=>aF 1010 (.op 40004 (.ln (cI .u32) a) (.br 100000014 (.op 60004 (.el (cI .u32) a (.up i)) (.op 60012 (.el (cI .u32) b (.up i)) (.br 100000025 (.ps 1000003 [.k [4] []] (.ret (.inr (.inl ())))) (.ps 1000003 [.k [0,1,5] []] (.ret (.inl (i+1))))))) (.ps 1000003 [.k [] []] (.ret (.inr (.inr ())))))) (by kernel_rfl)
def og (a:List Int) (b:List Int) (i:Nat):Option (Unit⊕Unit):=aK (fun (σ:Nat)=>eY a b σ) FU i
theorem Qu (a:List Int) (b:List Int) (i:Nat):∀y:Unit⊕Unit,og a b i=some y→Runs Tryz.prog (.loop (nav [1,1,0,1,0,0] (ah Tryz.f101))) (xI a b i) (aH y (fun _=>.ret) (fun _=>(.exit 0))) ((fun (y:Unit⊕Unit)=>aH y (fun y=>yF a b) (fun y=>xQ a b)) y):=
 aS (head:=fun (σ:Nat)=>xI a b σ) (eo:=fun (y:Unit⊕Unit)=>aH y (fun _=>.ret) (fun _=>(.exit 0))) (so:=fun (y:Unit⊕Unit)=>aH y (fun y=>yF a b) (fun y=>xQ a b)) (QJ a b) (fun y h=>by rcases y with y | y<;>cases h) FU i
def uT (a:List Int) (b:List Int):Option Bool:=
 bif ((a.length:Nat):Int) != ((b.length:Nat):Int) then
 some false
 else
 (og a b 0).bind fun y_=>aH y_ (fun x0=>
 some false)
 (fun x1=>
 some true)
theorem Kz (a:List Int) (b:List Int):∀r,uT a b=some r→aj Tryz.prog 101 0 [SL (cI .u32) a,SL (cI .u32) b] [] (B r) []:=
 ak (enc:=fun r=>B r) (aP:=fun r=>[]) 10 (.op 10002 (.ln (cI .u32) a) (.op 10006 (.ln (cI .u32) b) (.br 100000010 (.ret false) (.ps 1000001 [.k [0,1,5] []] (.lp2 0 (Qu a b 0) (fun x0=>.ret false) (fun x1=>.ret true)))))) Tryz.func101 (by kernel_rfl) (by kernel_rfl) (by kernel_rfl)
def pW (a:Rat) (b:Rat):Option Bool:=
 bif a.Neg==b.Neg then
 (uT a.Num b.Num).bind fun x0=>
 bif x0 then
 (uT a.Den b.Den).bind fun x1=>
 some x1
 else
 some false
 else
 some false
theorem vP (a:Rat) (b:Rat):∀r,pW a b=some r→aj Tryz.prog 40 0 [AG Rat.D a,AG Rat.D b] [] (B r) []:=
 ak (enc:=fun r=>B r) (aP:=fun r=>[]) 10 (.br 10012 (.call [] [] (Kz a.Num b.Num) .no fun x0=>.br 10026 (.call [] [] (Kz a.Den b.Den) .no fun x1=>.ret x1) (.ret false)) (.ret false)) Tryz.func40 (by kernel_rfl) (by kernel_rfl) (by kernel_rfl)
def FI (a:Rat):Option Bool:=
 (fP a).bind fun x0=>
 (pW x0 a).bind fun x1=>
 some x1
theorem VX (a:Rat):∀r,FI a=some r→aj Tryz.prog 139 0 [AG Rat.D a] [] (B r) []:=
 ak (enc:=fun r=>B r) (aP:=fun r=>[]) 10 (.call [] [] (dN a) .no fun x0=>.call [] [] (vP x0 a) .no fun x1=>.ret x1) Tryz.func139 (by kernel_rfl) (by kernel_rfl) (by kernel_rfl)
def xP (a:Rat):Option Rat:=
 (fP a).bind fun x0=>
 bif !x0.Neg then
 some (Rat.mk (decide (((x0.Num.length:Nat):Int)>0)) x0.Num x0.Den)
 else
 some (Rat.mk false x0.Num x0.Den)
theorem IC (a:Rat):∀r,xP a=some r→aj Tryz.prog 147 0 [AG Rat.D a] [] (AG Rat.D r) []:=
 ak (enc:=fun r=>AG Rat.D r) (aP:=fun r=>[]) 10 (.call [] [] (dN a) .no fun x0=>.br 20008 (.op 20012 (.ln (cI .u32) x0.Num) (.ret (Rat.mk (decide (((x0.Num.length:Nat):Int)>0)) x0.Num x0.Den))) (.ret (Rat.mk false x0.Num x0.Den))) Tryz.func147 (by kernel_rfl) (by kernel_rfl) (by kernel_rfl)
def Dy (a:Rat) (b:Rat):Option Whole:=
 (Lj (Whole.mk a.Neg a.Num) (Whole.mk false b.Den)).bind fun x0=>
 some x0
theorem MS (a:Rat) (b:Rat):∀r,Dy a b=some r→aj Tryz.prog 99 0 [AG Rat.D a,AG Rat.D b] [] (AG Whole.D r) []:=
 ak (enc:=fun r=>AG Whole.D r) (aP:=fun r=>[]) 10 (.call [] [] (ZA (Whole.mk a.Neg a.Num) (Whole.mk false b.Den)) .no fun x0=>.ret x0) Tryz.func99 (by kernel_rfl) (by kernel_rfl) (by kernel_rfl)
def kG (a:Rat) (b:Rat):Option Rat:=
 (fP a).bind fun x0=>
 (fP b).bind fun x1=>
 (Dy x0 x1).bind fun x2=>
 (Dy x1 x0).bind fun x3=>
 (CQ x2 x3).bind fun x4=>
 (xO x0.Den x1.Den).bind fun x5=>
 (kR x4 x5).bind fun x6=>
 some x6
theorem dW (a:Rat) (b:Rat):∀r,kG a b=some r→aj Tryz.prog 38 0 [AG Rat.D a,AG Rat.D b] [] (AG Rat.D r) []:=
 ak (enc:=fun r=>AG Rat.D r) (aP:=fun r=>[]) 10 (.call [] [] (dN a) .no fun x0=>.call [] [] (dN b) .no fun x1=>.call [] [] (MS x0 x1) .no fun x2=>.call [] [] (MS x1 x0) .no fun x3=>.call [] [] (Zh x2 x3) .no fun x4=>.call [] [] (Bc x0.Den x1.Den) .no fun x5=>.call [] [] (nP x4 x5) .no fun x6=>.ret x6) Tryz.func38 (by kernel_rfl) (by kernel_rfl) (by kernel_rfl)
def nZ (a:Rat) (b:Rat):Option Rat:=
 (fP a).bind fun x0=>
 (fP b).bind fun x1=>
 (xO x0.Num x1.Num).bind fun x2=>
 (xO x0.Den x1.Den).bind fun x3=>
 (kR (Whole.mk (!(x0.Neg==x1.Neg)) x2) x3).bind fun x4=>
 some x4
theorem qQ (a:Rat) (b:Rat):∀r,nZ a b=some r→aj Tryz.prog 39 0 [AG Rat.D a,AG Rat.D b] [] (AG Rat.D r) []:=
 ak (enc:=fun r=>AG Rat.D r) (aP:=fun r=>[]) 10 (.call [] [] (dN a) .no fun x0=>.call [] [] (dN b) .no fun x1=>.call [] [] (Bc x0.Num x1.Num) .no fun x2=>.call [] [] (Bc x0.Den x1.Den) .no fun x3=>.call [] [] (nP (Whole.mk (!(x0.Neg==x1.Neg)) x2) x3) .no fun x4=>.ret x4) Tryz.func39 (by kernel_rfl) (by kernel_rfl) (by kernel_rfl)
def Gu (a:Rat) (b:Rat):Option Rat:=
 (xP b).bind fun x0=>
 (kG a x0).bind fun x1=>
 some x1
theorem YU (a:Rat) (b:Rat):∀r,Gu a b=some r→aj Tryz.prog 206 0 [AG Rat.D a,AG Rat.D b] [] (AG Rat.D r) []:=
 ak (enc:=fun r=>AG Rat.D r) (aP:=fun r=>[]) 10 (.call [] [] (IC b) .no fun x0=>.call [] [] (dW a x0) .no fun x1=>.ret x1) Tryz.func206 (by kernel_rfl) (by kernel_rfl) (by kernel_rfl)
def Di (a:Rat):Option Bool:=
 (fP a).bind fun x0=>
 some (((x0.Num.length:Nat):Int)==0)
theorem Nc (a:Rat):∀r,Di a=some r→aj Tryz.prog 207 0 [AG Rat.D a] [] (B r) []:=
 ak (enc:=fun r=>B r) (aP:=fun r=>[]) 10 (.call [] [] (dN a) .no fun x0=>.op 20004 (.ln (cI .u32) x0.Num) (.ret (((x0.Num.length:Nat):Int)==0))) Tryz.func207 (by kernel_rfl) (by kernel_rfl) (by kernel_rfl)
def qJ (a:Rat):Option Rat:=
 (fP a).bind fun x0=>
 some (Rat.mk x0.Neg x0.Den x0.Num)
theorem Ac (a:Rat):∀r,qJ a=some r→aj Tryz.prog 208 0 [AG Rat.D a] [] (AG Rat.D r) []:=
 ak (enc:=fun r=>AG Rat.D r) (aP:=fun r=>[]) 10 (.call [] [] (dN a) .no fun x0=>.ret (Rat.mk x0.Neg x0.Den x0.Num)) Tryz.func208 (by kernel_rfl) (by kernel_rfl) (by kernel_rfl)
def wQ (a:Rat) (b:Rat):Option (Rat×Int):=
 (Di b).bind fun x0=>
 bif x0 then
 some (Rat.mk false [] [],3)
 else
 (qJ b).bind fun x1=>
 (nZ a x1).bind fun x2=>
 some (x2,0)
theorem IL (a:Rat) (b:Rat):∀r,wQ a b=some r→aj Tryz.prog 146 0 [AG Rat.D a,AG Rat.D b] [] (.tup [AG Rat.D r.1,I r.2]) []:=
 ak (enc:=fun r=>.tup [AG Rat.D r.1,I r.2]) (aP:=fun r=>[]) 10 (.call [] [] (Nc b) .no fun x0=>.br 100000009 (.ps 1000003 [.b 12] (.ret (Rat.mk false [] [],3))) (.call [] [] (Ac b) .no fun x1=>.call [] [] (qQ a x1) .no fun x2=>.ret (x2,0))) Tryz.func146 (by kernel_rfl) (by kernel_rfl) (by kernel_rfl)
def dH (n:Int):Option Rat:=
 (G5 n).bind fun x0=>
 (kR x0 [1]).bind fun x1=>
 some x1
theorem bf (n:Int):∀r,dH n=some r→aj Tryz.prog 37 0 [I n] [] (AG Rat.D r) []:=
 ak (enc:=fun r=>AG Rat.D r) (aP:=fun r=>[]) 10 (.call [] [] (SB n) .no fun x0=>.call [] [] (nP x0 [1]) .no fun x1=>.ret x1) Tryz.func37 (by kernel_rfl) (by kernel_rfl) (by kernel_rfl)
def Ez (n:Int) (x2:Rat) (i:Nat) (out:Bool) (out1:List Int) (tu:List Int):St:=⟨43,0,[(1,I (0-n)),(4,.ptr 11 0 0),(7,.ptr 12 0 0),(8,.ptr 13 0 0),(9,I ((i:Nat):Int))],[(11,BOX [B false,bZ,bZ]),(12,BOX [B x2.Neg,SL (cI .u32) x2.Num,SL (cI .u32) x2.Den]),(13,BOX [B out,SL (cI .u32) out1,SL (cI .u32) tu])]⟩
def Eh (n:Int) (x2:Rat) (out:Bool) (out1:List Int) (tu:List Int):St:=⟨43,0,[(4,.ptr 11 0 0),(8,.ptr 13 0 0)],[(11,BOX [B false,bZ,bZ]),(13,BOX [B out,SL (cI .u32) out1,SL (cI .u32) tu])]⟩
def qc (n:Int) (x2:Rat) (i:Nat) (out:Bool) (out1:List Int) (tu:List Int):Option ((Nat×Bool×List Int×List Int)⊕(Bool×List Int×List Int)):=
 bif decide (((i:Nat):Int)<(0-n)) then
 (nZ (Rat.mk out out1 tu) x2).bind fun x4=>
 bif inK .i64 (((i:Nat):Int)+1) then
 some (.inl (i+1,x4.Neg,x4.Num,x4.Den))
 else none
 else
 some (.inr (out,out1,tu))
theorem V8 (n:Int) (x2:Rat):∀σ:Nat×Bool×List Int×List Int,aN Tryz.prog (nav [1,1,1,1,1,1,1,0,1,0,0] (ah Tryz.f148)) (fun (σ:Nat×Bool×List Int×List Int)=>Ez n x2 σ.1 σ.2.1 σ.2.2.1 σ.2.2.2) (fun (_:Bool×List Int×List Int)=>(.exit 0)) (fun (y:Bool×List Int×List Int)=>Eh n x2 y.1 y.2.1 y.2.2) σ (qc n x2 σ.1 σ.2.1 σ.2.2.1 σ.2.2.2)
 | (i,out,out1,tu)=>aF 1010 (.br 100000036 (.call [] [] (qQ (Rat.mk out out1 tu) x2) .no fun x4=>.ps 1000003 [.k [1,4,7,8,9] [11,12,13]] (.ret (.inl (i+1,x4.Neg,x4.Num,x4.Den)))) (.ps 1000003 [.k [4,8] [11,13]] (.ret (.inr (out,out1,tu))))) (by kernel_rfl)
def zO (n:Int) (x2:Rat) (i:Nat) (out:Bool) (out1:List Int) (tu:List Int):Option (Bool×List Int×List Int):=aK (fun (σ:Nat×Bool×List Int×List Int)=>qc n x2 σ.1 σ.2.1 σ.2.2.1 σ.2.2.2) FU (i,out,out1,tu)
theorem JW (n:Int) (x2:Rat) (i:Nat) (out:Bool) (out1:List Int) (tu:List Int):∀y:Bool×List Int×List Int,zO n x2 i out out1 tu=some y→Runs Tryz.prog (.loop (nav [1,1,1,1,1,1,1,0,1,0,0] (ah Tryz.f148))) (Ez n x2 i out out1 tu) ((.exit 0)) ((fun (y:Bool×List Int×List Int)=>Eh n x2 y.1 y.2.1 y.2.2) y):=
 aS (head:=fun (σ:Nat×Bool×List Int×List Int)=>Ez n x2 σ.1 σ.2.1 σ.2.2.1 σ.2.2.2) (eo:=fun (_:Bool×List Int×List Int)=>(.exit 0)) (so:=fun (y:Bool×List Int×List Int)=>Eh n x2 y.1 y.2.1 y.2.2) (V8 n x2) (fun _ h=>by cases h) FU (i,out,out1,tu)
def yE (n:Int) (x1:Rat) (i:Nat) (out:Bool) (out1:List Int) (tu:List Int):St:=⟨43,0,[(1,I n),(4,.ptr 11 0 0),(7,.ptr 12 0 0),(8,.ptr 13 0 0),(9,I ((i:Nat):Int))],[(11,BOX [B false,bZ,bZ]),(12,BOX [B x1.Neg,SL (cI .u32) x1.Num,SL (cI .u32) x1.Den]),(13,BOX [B out,SL (cI .u32) out1,SL (cI .u32) tu])]⟩
def yC (n:Int) (x1:Rat) (out:Bool) (out1:List Int) (tu:List Int):St:=⟨43,0,[(4,.ptr 11 0 0),(8,.ptr 13 0 0)],[(11,BOX [B false,bZ,bZ]),(13,BOX [B out,SL (cI .u32) out1,SL (cI .u32) tu])]⟩
def lQ (n:Int) (x1:Rat) (i:Nat) (out:Bool) (out1:List Int) (tu:List Int):Option ((Nat×Bool×List Int×List Int)⊕(Bool×List Int×List Int)):=
 bif decide (((i:Nat):Int)<n) then
 (nZ (Rat.mk out out1 tu) x1).bind fun x3=>
 bif inK .i64 (((i:Nat):Int)+1) then
 some (.inl (i+1,x3.Neg,x3.Num,x3.Den))
 else none
 else
 some (.inr (out,out1,tu))
theorem RG (n:Int) (x1:Rat):∀σ:Nat×Bool×List Int×List Int,aN Tryz.prog (nav [1,1,1,1,1,1,1,0,1,0,0] (ah Tryz.f148)) (fun (σ:Nat×Bool×List Int×List Int)=>yE n x1 σ.1 σ.2.1 σ.2.2.1 σ.2.2.2) (fun (_:Bool×List Int×List Int)=>(.exit 0)) (fun (y:Bool×List Int×List Int)=>yC n x1 y.1 y.2.1 y.2.2) σ (lQ n x1 σ.1 σ.2.1 σ.2.2.1 σ.2.2.2)
 | (i,out,out1,tu)=>aF 1010 (.br 100000036 (.call [] [] (qQ (Rat.mk out out1 tu) x1) .no fun x3=>.ps 1000003 [.k [1,4,7,8,9] [11,12,13]] (.ret (.inl (i+1,x3.Neg,x3.Num,x3.Den)))) (.ps 1000003 [.k [4,8] [11,13]] (.ret (.inr (out,out1,tu))))) (by kernel_rfl)
def rZ (n:Int) (x1:Rat) (i:Nat) (out:Bool) (out1:List Int) (tu:List Int):Option (Bool×List Int×List Int):=aK (fun (σ:Nat×Bool×List Int×List Int)=>lQ n x1 σ.1 σ.2.1 σ.2.2.1 σ.2.2.2) FU (i,out,out1,tu)
theorem GV (n:Int) (x1:Rat) (i:Nat) (out:Bool) (out1:List Int) (tu:List Int):∀y:Bool×List Int×List Int,rZ n x1 i out out1 tu=some y→Runs Tryz.prog (.loop (nav [1,1,1,1,1,1,1,0,1,0,0] (ah Tryz.f148))) (yE n x1 i out out1 tu) ((.exit 0)) ((fun (y:Bool×List Int×List Int)=>yC n x1 y.1 y.2.1 y.2.2) y):=
 aS (head:=fun (σ:Nat×Bool×List Int×List Int)=>yE n x1 σ.1 σ.2.1 σ.2.2.1 σ.2.2.2) (eo:=fun (_:Bool×List Int×List Int)=>(.exit 0)) (so:=fun (y:Bool×List Int×List Int)=>yC n x1 y.1 y.2.1 y.2.2) (RG n x1) (fun _ h=>by cases h) FU (i,out,out1,tu)
def qP (a:Rat) (n:Int):Option (Rat×Int):=
 bif decide (n<(-64)) then
 some (Rat.mk false [] [],4)
 else
 bif decide (n>64) then
 some (Rat.mk false [] [],4)
 else
 (Di a).bind fun x0=>
 bif x0 then
 bif decide (n<0) then
 some (Rat.mk false [] [],3)
 else
 (fP a).bind fun x1=>
 bif decide (n<0) then
 (qJ a).bind fun x2=>
 bif inK .i64 (0-n) then
 (dH 1).bind fun x3=>
 (zO n x2 0 x3.Neg x3.Num x3.Den).bind fun x4=>
 some (Rat.mk x4.1 x4.2.1 x4.2.2,0)
 else none
 else
 (dH 1).bind fun x2=>
 (rZ n x1 0 x2.Neg x2.Num x2.Den).bind fun x3=>
 some (Rat.mk x3.1 x3.2.1 x3.2.2,0)
 else
 (fP a).bind fun x1=>
 bif decide (n<0) then
 (qJ a).bind fun x2=>
 bif inK .i64 (0-n) then
 (dH 1).bind fun x3=>
 (zO n x2 0 x3.Neg x3.Num x3.Den).bind fun x4=>
 some (Rat.mk x4.1 x4.2.1 x4.2.2,0)
 else none
 else
 (dH 1).bind fun x2=>
 (rZ n x1 0 x2.Neg x2.Num x2.Den).bind fun x3=>
 some (Rat.mk x3.1 x3.2.1 x3.2.2,0)
theorem Qg (a:Rat) (n:Int):∀r,qP a n=some r→aj Tryz.prog 148 0 [AG Rat.D a,I n] [] (.tup [AG Rat.D r.1,I r.2]) []:=
 ak (enc:=fun r=>.tup [AG Rat.D r.1,I r.2]) (aP:=fun r=>[]) 10 (.br 10006 (.ps 1000003 [.b 11] (.ret (Rat.mk false [] [],4))) (.br 100000015 (.ps 1000003 [.b 11] (.ret (Rat.mk false [] [],4))) (.call [] [] (Nc a) .no fun x0=>.br 40004 (.br 100000023 (.ps 1000003 [.b 11] (.ret (Rat.mk false [] [],3))) (.call [] [] (dN a) .no fun x1=>.br 100000028 (.call [] [] (Ac a) .no fun x2=>.call [] [] (bf 1) .no fun x3=>.ps 1000001 [.k [1,4,7,8,9] [11,12,13]] (.lp1 0 (JW n x2 0 x3.Neg x3.Num x3.Den) fun x4=>.ret (Rat.mk x4.1 x4.2.1 x4.2.2,0))) (.call [] [] (bf 1) .no fun x2=>.ps 1000001 [.k [1,4,7,8,9] [11,12,13]] (.lp1 0 (GV n x1 0 x2.Neg x2.Num x2.Den) fun x3=>.ret (Rat.mk x3.1 x3.2.1 x3.2.2,0))))) (.call [] [] (dN a) .no fun x1=>.br 100000028 (.call [] [] (Ac a) .no fun x2=>.call [] [] (bf 1) .no fun x3=>.ps 1000001 [.k [1,4,7,8,9] [11,12,13]] (.lp1 0 (JW n x2 0 x3.Neg x3.Num x3.Den) fun x4=>.ret (Rat.mk x4.1 x4.2.1 x4.2.2,0))) (.call [] [] (bf 1) .no fun x2=>.ps 1000001 [.k [1,4,7,8,9] [11,12,13]] (.lp1 0 (GV n x1 0 x2.Neg x2.Num x2.Den) fun x3=>.ret (Rat.mk x3.1 x3.2.1 x3.2.2,0))))))) Tryz.func148 (by kernel_rfl) (by kernel_rfl) (by kernel_rfl)
def Ej (l:List Rat) (most:Int) (i:Nat):St:=⟨30,0,[(0,SL Rat.D l),(1,I most),(5,I ((i:Nat):Int))],[]⟩
def Dh (l:List Rat) (most:Int):St:=⟨30,0,[(4,B false)],[]⟩
def EM (l:List Rat) (most:Int):St:=⟨30,0,[],[]⟩
def jJ (l:List Rat) (most:Int) (i:Nat):Option (Nat⊕(Unit⊕Unit)):=
 bif decide (((i:Nat):Int)<((l.length:Nat):Int)) then
 bif decide (i<l.length) then
 bif decide (((((nth l i).Num).length:Nat):Int)>most) then
 some (.inr (.inl ()))
 else
 bif decide (i<l.length) then
 bif decide (((((nth l i).Den).length:Nat):Int)>most) then
 some (.inr (.inl ()))
 else
 bif inK .i64 (((i:Nat):Int)+1) then
 some (.inl (i+1))
 else none
 else none
 else none
 else
 some (.inr (.inr ()))
theorem WV (l:List Rat) (most:Int):∀σ:Nat,aN Tryz.prog (nav [1,0,1,0,0] (ah Tryz.f25)) (fun (σ:Nat)=>Ej l most σ) (fun (y:Unit⊕Unit)=>aH y (fun _=>.ret) (fun _=>(.exit 0))) (fun (y:Unit⊕Unit)=>aH y (fun y=>Dh l most) (fun y=>EM l most)) σ (jJ l most σ)
 | i=>aF 1010 (.op 20004 (.ln Rat.D l) (.br 100000009 (.op 40004 (.el Rat.D l (.up i)) (.op 40010 (.ln (cI .u32) ((nth l i).Num)) (.br 40018 (.ps 1000003 [.k [4] []] (.ret (.inr (.inl ())))) (.op 40022 (.el Rat.D l (.up i)) (.op 40028 (.ln (cI .u32) ((nth l i).Den)) (.br 100000029 (.ps 1000003 [.k [4] []] (.ret (.inr (.inl ())))) (.ps 1000003 [.k [0,1,5] []] (.ret (.inl (i+1)))))))))) (.ps 1000003 [.k [] []] (.ret (.inr (.inr ())))))) (by kernel_rfl)
def FT (l:List Rat) (most:Int) (i:Nat):Option (Unit⊕Unit):=aK (fun (σ:Nat)=>jJ l most σ) 100000000000000000000 i
theorem VP (l:List Rat) (most:Int) (i:Nat):∀y:Unit⊕Unit,FT l most i=some y→Runs Tryz.prog (.loop (nav [1,0,1,0,0] (ah Tryz.f25))) (Ej l most i) (aH y (fun _=>.ret) (fun _=>(.exit 0))) ((fun (y:Unit⊕Unit)=>aH y (fun y=>Dh l most) (fun y=>EM l most)) y):=
 aS (head:=fun (σ:Nat)=>Ej l most σ) (eo:=fun (y:Unit⊕Unit)=>aH y (fun _=>.ret) (fun _=>(.exit 0))) (so:=fun (y:Unit⊕Unit)=>aH y (fun y=>Dh l most) (fun y=>EM l most)) (WV l most) (fun y h=>by rcases y with y | y<;>cases h) 100000000000000000000 i
def Lm (l:List Rat) (most:Int):Option Bool:=
 (FT l most 0).bind fun y_=>aH y_ (fun x0=>
 some false)
 (fun x1=>
 some true)
theorem ZW (l:List Rat) (most:Int):∀r,Lm l most=some r→aj Tryz.prog 25 0 [SL Rat.D l,I most] [] (B r) []:=
 ak (enc:=fun r=>B r) (aP:=fun r=>[]) 10 (.ps 1000001 [.k [0,1,5] []] (.lp2 0 (VP l most 0) (fun x0=>.ret false) (fun x1=>.ret true))) Tryz.func25 (by kernel_rfl) (by kernel_rfl) (by kernel_rfl)
def Dz (a:List Rat) (b:List Rat) (i:Nat):St:=⟨29,0,[(0,SL Rat.D a),(1,SL Rat.D b),(5,I ((i:Nat):Int))],[]⟩
def Ei (a:List Rat) (b:List Rat):St:=⟨29,0,[(4,B false)],[]⟩
def Ee (a:List Rat) (b:List Rat):St:=⟨29,0,[],[]⟩
def JH (a:List Rat) (b:List Rat) (i:Nat):Option (Nat⊕(Unit⊕Unit)):=
 bif decide (((i:Nat):Int)<((a.length:Nat):Int)) then
 bif decide (i<a.length) then
 bif decide (i<b.length) then
 (pW (nth a i) (nth b i)).bind fun x0=>
 bif !x0 then
 some (.inr (.inl ()))
 else
 bif inK .i64 (((i:Nat):Int)+1) then
 some (.inl (i+1))
 else none
 else none
 else none
 else
 some (.inr (.inr ()))
theorem Wp (a:List Rat) (b:List Rat):∀σ:Nat,aN Tryz.prog (nav [1,1,0,1,0,0] (ah Tryz.f36)) (fun (σ:Nat)=>Dz a b σ) (fun (y:Unit⊕Unit)=>aH y (fun _=>.ret) (fun _=>(.exit 0))) (fun (y:Unit⊕Unit)=>aH y (fun y=>Ei a b) (fun y=>Ee a b)) σ (JH a b σ)
 | i=>aF 1010 (.op 40004 (.ln Rat.D a) (.br 100000015 (.op 60004 (.el Rat.D a (.up i)) (.op 60012 (.el Rat.D b (.up i)) (.call [] [] (vP (nth a i) (nth b i)) .no fun x0=>.br 100000028 (.ps 1000003 [.k [4] []] (.ret (.inr (.inl ())))) (.ps 1000003 [.k [0,1,5] []] (.ret (.inl (i+1))))))) (.ps 1000003 [.k [] []] (.ret (.inr (.inr ())))))) (by kernel_rfl)
def SC (a:List Rat) (b:List Rat) (i:Nat):Option (Unit⊕Unit):=aK (fun (σ:Nat)=>JH a b σ) FU i
theorem VT (a:List Rat) (b:List Rat) (i:Nat):∀y:Unit⊕Unit,SC a b i=some y→Runs Tryz.prog (.loop (nav [1,1,0,1,0,0] (ah Tryz.f36))) (Dz a b i) (aH y (fun _=>.ret) (fun _=>(.exit 0))) ((fun (y:Unit⊕Unit)=>aH y (fun y=>Ei a b) (fun y=>Ee a b)) y):=
 aS (head:=fun (σ:Nat)=>Dz a b σ) (eo:=fun (y:Unit⊕Unit)=>aH y (fun _=>.ret) (fun _=>(.exit 0))) (so:=fun (y:Unit⊕Unit)=>aH y (fun y=>Ei a b) (fun y=>Ee a b)) (Wp a b) (fun y h=>by rcases y with y | y<;>cases h) FU i
def Yj (a:List Rat) (b:List Rat):Option Bool:=
 bif ((a.length:Nat):Int) != ((b.length:Nat):Int) then
 some false
 else
 (SC a b 0).bind fun y_=>aH y_ (fun x0=>
 some false)
 (fun x1=>
 some true)
theorem Zw (a:List Rat) (b:List Rat):∀r,Yj a b=some r→aj Tryz.prog 36 0 [SL Rat.D a,SL Rat.D b] [] (B r) []:=
 ak (enc:=fun r=>B r) (aP:=fun r=>[]) 10 (.op 10002 (.ln Rat.D a) (.op 10006 (.ln Rat.D b) (.br 100000011 (.ret false) (.ps 1000001 [.k [0,1,5] []] (.lp2 0 (VT a b 0) (fun x0=>.ret false) (fun x1=>.ret true)))))) Tryz.func36 (by kernel_rfl) (by kernel_rfl) (by kernel_rfl)
end Go.Ab.M
