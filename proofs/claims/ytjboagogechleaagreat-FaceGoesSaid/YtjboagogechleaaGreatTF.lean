import Derived.Test.YtjboagogechleaaGreatTE
namespace Go.Ab.M
open Go.Proofs
set_option linter.unusedVariables false
set_option maxRecDepth 100000
def zW (a:List Int) (b:List Int) (out:List Int) (carry:Int) (i:Nat):St:=⟨37,0,[(0,SL (cI .u32) a),(1,SL (cI .u32) b),(5,iH 100007 out),(6,NI .u64 carry),(7,I ((i:Nat):Int))],[(100007,je 1 (cI .u32) out)]⟩
def AU (a:List Int) (b:List Int) (out:List Int):St:=⟨37,0,[(5,iH 100007 out)],[(100007,je 1 (cI .u32) out)]⟩
def kL (a:List Int) (b:List Int) (out:List Int) (carry:Int) (i:Nat):Option ((List Int×Int×Nat)⊕(List Int)):=
 bif decide (((i:Nat):Int)≤(mxI ((a.length:Nat):Int) ((b.length:Nat):Int))) then
 (lW a ((i:Nat):Int)).bind fun x0=>
 (lW b ((i:Nat):Int)).bind fun x1=>
 bif decide (0≤IntKind.wrap .u64 ((IntKind.wrap .u64 (x0+x1))+carry)) then
 bif decide (0<4294967296) then
 bif decide (out.length+1≤2147483648) then
 bif decide (0≤IntKind.wrap .u64 ((IntKind.wrap .u64 (x0+x1))+carry)) then
 bif decide (0<4294967296) then
 bif decide (IntKind.wrap .u64 ((IntKind.wrap .u64 (x0+x1))+carry)≤Go.Ab.hi .u64) then
 bif inK .i64 (((i:Nat):Int)+1) then
 some (.inl (out++[IntKind.wrap .u32 ((IntKind.wrap .u64 ((IntKind.wrap .u64 (x0+x1))+carry))%4294967296)],(IntKind.wrap .u64 ((IntKind.wrap .u64 (x0+x1))+carry))/4294967296,i+1))
 else none
 else none
 else none
 else none
 else none
 else none
 else none
 else
 some (.inr out)
theorem Qj (a:List Int) (b:List Int):∀σ:List Int×Int×Nat,aN Tryz.prog (nav [1,1,1,0,1,0,0] (ah Tryz.f172)) (fun (σ:List Int×Int×Nat)=>zW a b σ.1 σ.2.1 σ.2.2) (fun (_:List Int)=>(.exit 0)) (fun (y:List Int)=>AU a b y) σ (kL a b σ.1 σ.2.1 σ.2.2)
 | ([],carry,i)=>aH 1010 (.op 40004 (.ln (cI .u32) a) (.op 40008 (.ln (cI .u32) b) (.br 100000015 (.call [] [] (fE a ((i:Nat):Int)) .no fun x0=>.call [] [] (fE b ((i:Nat):Int)) .no fun x1=>.op 70006 .wr (.op 70010 (.ap (cI .u32) [] [IntKind.wrap .u32 ((IntKind.wrap .u64 ((IntKind.wrap .u64 (x0+x1))+carry))%4294967296)] 1 fun _=>⟨rfl,rfl⟩) (.ps 1000003 [.k [0,1,5,6,7] [1011],.m 1011 100007] (.ret (.inl ([IntKind.wrap .u32 ((IntKind.wrap .u64 ((IntKind.wrap .u64 (x0+x1))+carry))%4294967296)],(IntKind.wrap .u64 ((IntKind.wrap .u64 (x0+x1))+carry))/4294967296,i+1)))))) (.ps 1000003 [.k [5] [100007]] (.ret (.inr [])))))) (by kernel_rfl)
 | (fO::fP,carry,i)=>aH 1010 (.op 40004 (.ln (cI .u32) a) (.op 40008 (.ln (cI .u32) b) (.br 100000015 (.call [] [] (fE a ((i:Nat):Int)) .no fun x0=>.call [] [] (fE b ((i:Nat):Int)) .no fun x1=>.op 70006 .wr (.op 70010 (.ap (cI .u32) (fO::fP) [IntKind.wrap .u32 ((IntKind.wrap .u64 ((IntKind.wrap .u64 (x0+x1))+carry))%4294967296)] 1 fun _=>⟨rfl,rfl⟩) (.ps 1000003 [.k [0,1,5,6,7] [1011],.m 1011 100007] (.ret (.inl ((fO::fP)++[IntKind.wrap .u32 ((IntKind.wrap .u64 ((IntKind.wrap .u64 (x0+x1))+carry))%4294967296)],(IntKind.wrap .u64 ((IntKind.wrap .u64 (x0+x1))+carry))/4294967296,i+1)))))) (.ps 1000003 [.k [5] [100007]] (.ret (.inr (fO::fP))))))) (by kernel_rfl)
def Ci (a:List Int) (b:List Int) (out:List Int) (carry:Int) (i:Nat):Option (List Int):=aK (fun (σ:List Int×Int×Nat)=>kL a b σ.1 σ.2.1 σ.2.2) FU (out,carry,i)
theorem Qo (a:List Int) (b:List Int) (out:List Int) (carry:Int) (i:Nat):∀y:List Int,Ci a b out carry i=some y→Runs Tryz.prog (.loop (nav [1,1,1,0,1,0,0] (ah Tryz.f172))) (zW a b out carry i) ((.exit 0)) ((fun (y:List Int)=>AU a b y) y):=
 aX (head:=fun (σ:List Int×Int×Nat)=>zW a b σ.1 σ.2.1 σ.2.2) (eo:=fun (_:List Int)=>(.exit 0)) (so:=fun (y:List Int)=>AU a b y) (Qj a b) (fun _ h=>by cases h) FU (out,carry,i)
def D6 (a:List Int) (b:List Int):Option (List Int):=
 (Ci a b [] 0 0).bind fun x0=>
 (gI x0).bind fun x1=>
 some x1
theorem KQ (a:List Int) (b:List Int):∀r,D6 a b=some r→au Tryz.prog 172 0 [SL (cI .u32) a,SL (cI .u32) b] [] (SL (cI .u32) r) []:=
 ay (enc:=fun r=>SL (cI .u32) r) (aU:=fun r=>[]) 10 (.ps 1000001 [.k [0,1,5,6,7] [100007]] (.lp1 0 (Qo a b [] 0 0) fun x0=>.oz 1 5 100007 1 (cI .u32) x0 (.ps 1 [.k [5] []] (.call [] [] (eU x0) .no fun x1=>.ret x1)))) Tryz.func172 (by kernel_rfl) (by kernel_rfl) (by kernel_rfl)
def Ac (a:List Int) (b:List Int) (out:List Int) (i:Nat):St:=⟨27,0,[(0,SL (cI .u32) a),(1,SL (cI .u32) b),(5,SL (cI .u32) out),(6,I ((i:Nat):Int))],[]⟩
def AO (a:List Int) (b:List Int) (out:List Int):St:=⟨27,0,[(5,SL (cI .u32) out)],[]⟩
def ni (a:List Int) (b:List Int) (out:List Int) (i:Nat):Option ((List Int×Nat)⊕(List Int)):=
 bif decide (((i:Nat):Int)<((b.length:Nat):Int)) then
 bif decide (i≤2147483648) then
 bif decide (i<b.length) then
 (iZ a (nth b i) 0).bind fun x0=>
 bif decide ((List.replicate i 0:List Int).length+x0.length≤2147483648) then
 (D6 out ((List.replicate i 0)++x0)).bind fun x1=>
 bif inK .i64 (((i:Nat):Int)+1) then
 some (.inl (x1,i+1))
 else none
 else none
 else none
 else none
 else
 some (.inr out)
theorem RZ (a:List Int) (b:List Int):∀σ:List Int×Nat,aN Tryz.prog (nav [1,1,0,1,0,0] (ah Tryz.f128)) (fun (σ:List Int×Nat)=>Ac a b σ.1 σ.2) (fun (_:List Int)=>(.exit 0)) (fun (y:List Int)=>AO a b y) σ (ni a b σ.1 σ.2)
 | (out,i)=>aH 1010 (.op 30004 (.ln (cI .u32) b) (.br 100000011 (.op 50002 (.mk (cI .u32) 0 (.up i)) (.op 50010 (.el (cI .u32) b (.up i)) (.call [] [] (rG a (nth b i) 0) .no fun x0=>.op 50016 (.ap (cI .u32) (List.replicate i 0) x0 1 fun _=>⟨rfl,rfl⟩) (.call [] [] (KQ out ((List.replicate i 0)++x0)) .no fun x1=>.ps 1000003 [.k [0,1,5,6] []] (.ret (.inl (x1,i+1))))))) (.ps 1000003 [.k [5] []] (.ret (.inr out))))) (by kernel_rfl)
def BU (a:List Int) (b:List Int) (out:List Int) (i:Nat):Option (List Int):=aK (fun (σ:List Int×Nat)=>ni a b σ.1 σ.2) FU (out,i)
theorem QH (a:List Int) (b:List Int) (out:List Int) (i:Nat):∀y:List Int,BU a b out i=some y→Runs Tryz.prog (.loop (nav [1,1,0,1,0,0] (ah Tryz.f128))) (Ac a b out i) ((.exit 0)) ((fun (y:List Int)=>AO a b y) y):=
 aX (head:=fun (σ:List Int×Nat)=>Ac a b σ.1 σ.2) (eo:=fun (_:List Int)=>(.exit 0)) (so:=fun (y:List Int)=>AO a b y) (RZ a b) (fun _ h=>by cases h) FU (out,i)
def uq (a:List Int) (b:List Int):Option (List Int):=
 (BU a b [] 0).bind fun x0=>
 some x0
theorem yu (a:List Int) (b:List Int):∀r,uq a b=some r→au Tryz.prog 128 0 [SL (cI .u32) a,SL (cI .u32) b] [] (SL (cI .u32) r) []:=
 ay (enc:=fun r=>SL (cI .u32) r) (aU:=fun r=>[]) 10 (.ps 1000001 [.n 5,.k [0,1,5,6] []] (.lp1 0 (QH a b [] 0) fun x0=>.ret x0)) Tryz.func128 (by kernel_rfl) (by kernel_rfl) (by kernel_rfl)
def uG (a:Whole):Option Whole:=
 (gI a.Mag).bind fun x0=>
 bif a.Neg then
 some (Whole.mk (decide (((x0.length:Nat):Int)>0)) x0)
 else
 some (Whole.mk false x0)
theorem yO (a:Whole):∀r,uG a=some r→au Tryz.prog 173 0 [AG Whole.D a] [] (AG Whole.D r) []:=
 ay (enc:=fun r=>AG Whole.D r) (aU:=fun r=>[]) 10 (.call [] [] (eU a.Mag) .no fun x0=>.br 20006 (.op 20008 (.ln (cI .u32) x0) (.ret (Whole.mk (decide (((x0.length:Nat):Int)>0)) x0))) (.ret (Whole.mk false x0))) Tryz.func173 (by kernel_rfl) (by kernel_rfl) (by kernel_rfl)
def zq (a:Whole) (b:Whole):Option Whole:=
 bif a.Neg==b.Neg then
 (D6 a.Mag b.Mag).bind fun x0=>
 (uG (Whole.mk a.Neg x0)).bind fun x1=>
 some x1
 else
 (qC a.Mag b.Mag).bind fun x0=>
 bif decide (x0≥0) then
 (qw a.Mag b.Mag).bind fun x1=>
 (uG (Whole.mk a.Neg x1.1)).bind fun x2=>
 some x2
 else
 (qw b.Mag a.Mag).bind fun x1=>
 (uG (Whole.mk b.Neg x1.1)).bind fun x2=>
 some x2
theorem VQ (a:Whole) (b:Whole):∀r,zq a b=some r→au Tryz.prog 129 0 [AG Whole.D a,AG Whole.D b] [] (AG Whole.D r) []:=
 ay (enc:=fun r=>AG Whole.D r) (aU:=fun r=>[]) 10 (.br 100000013 (.call [] [] (KQ a.Mag b.Mag) .no fun x0=>.call [] [] (yO (Whole.mk a.Neg x0)) .no fun x1=>.ret x1) (.call [] [] (rD a.Mag b.Mag) .no fun x0=>.br 100000028 (.call [] [] (sF a.Mag b.Mag) .no fun x1=>.call [] [] (yO (Whole.mk a.Neg x1.1)) .no fun x2=>.ret x2) (.call [] [] (sF b.Mag a.Mag) .no fun x1=>.call [] [] (yO (Whole.mk b.Neg x1.1)) .no fun x2=>.ret x2))) Tryz.func129 (by kernel_rfl) (by kernel_rfl) (by kernel_rfl)
def H9 (a:Whole) (b:Whole):Option Whole:=
 (uq a.Mag b.Mag).bind fun x0=>
 (uG (Whole.mk (!(a.Neg==b.Neg)) x0)).bind fun x1=>
 some x1
theorem UQ (a:Whole) (b:Whole):∀r,H9 a b=some r→au Tryz.prog 176 0 [AG Whole.D a,AG Whole.D b] [] (AG Whole.D r) []:=
 ay (enc:=fun r=>AG Whole.D r) (aU:=fun r=>[]) 10 (.call [] [] (yu a.Mag b.Mag) .no fun x0=>.call [] [] (yO (Whole.mk (!(a.Neg==b.Neg)) x0)) .no fun x1=>.ret x1) Tryz.func176 (by kernel_rfl) (by kernel_rfl) (by kernel_rfl)
def qG (a:Rat):Option Rat:=
 (lI (Whole.mk a.Neg a.Num) a.Den).bind fun x0=>
 some x0
theorem qO (a:Rat):∀r,qG a=some r→au Tryz.prog 127 0 [AG Rat.D a] [] (AG Rat.D r) []:=
 ay (enc:=fun r=>AG Rat.D r) (aU:=fun r=>[]) 10 (.call [] [] (o8 (Whole.mk a.Neg a.Num) a.Den) .no fun x0=>.ret x0) Tryz.func127 (by kernel_rfl) (by kernel_rfl) (by kernel_rfl)
def uJ (a:List Int) (b:List Int) (i:Nat):St:=⟨26,0,[(0,SL (cI .u32) a),(1,SL (cI .u32) b),(5,I ((i:Nat):Int))],[]⟩
def tq (a:List Int) (b:List Int):St:=⟨26,0,[(4,B false)],[]⟩
def uN (a:List Int) (b:List Int):St:=⟨26,0,[],[]⟩
def dP (a:List Int) (b:List Int) (i:Nat):Option (Nat⊕(Unit⊕Unit)):=
 bif decide (((i:Nat):Int)<((a.length:Nat):Int)) then
 bif decide (i<a.length) then
 bif decide (i<b.length) then
 bif (nth a i) != (nth b i) then
 some (.inr (.inl ()))
 else
 bif inK .i64 (((i:Nat):Int)+1) then
 some (.inl (i+1))
 else none
 else none
 else none
 else
 some (.inr (.inr ()))
theorem MK (a:List Int) (b:List Int):∀σ:Nat,aN Tryz.prog (nav [1,1,0,1,0,0] (ah Tryz.f131)) (fun (σ:Nat)=>uJ a b σ) (fun (y:Unit⊕Unit)=>aC y (fun _=>.ret) (fun _=>(.exit 0))) (fun (y:Unit⊕Unit)=>aC y (fun y=>tq a b) (fun y=>uN a b)) σ (dP a b σ)
 | i=>aH 1010 (.op 40004 (.ln (cI .u32) a) (.br 100000014 (.op 60004 (.el (cI .u32) a (.up i)) (.op 60012 (.el (cI .u32) b (.up i)) (.br 100000025 (.ps 1000003 [.k [4] []] (.ret (.inr (.inl ())))) (.ps 1000003 [.k [0,1,5] []] (.ret (.inl (i+1))))))) (.ps 1000003 [.k [] []] (.ret (.inr (.inr ())))))) (by kernel_rfl)
def l7 (a:List Int) (b:List Int) (i:Nat):Option (Unit⊕Unit):=aK (fun (σ:Nat)=>dP a b σ) FU i
theorem MS (a:List Int) (b:List Int) (i:Nat):∀y:Unit⊕Unit,l7 a b i=some y→Runs Tryz.prog (.loop (nav [1,1,0,1,0,0] (ah Tryz.f131))) (uJ a b i) (aC y (fun _=>.ret) (fun _=>(.exit 0))) ((fun (y:Unit⊕Unit)=>aC y (fun y=>tq a b) (fun y=>uN a b)) y):=
 aX (head:=fun (σ:Nat)=>uJ a b σ) (eo:=fun (y:Unit⊕Unit)=>aC y (fun _=>.ret) (fun _=>(.exit 0))) (so:=fun (y:Unit⊕Unit)=>aC y (fun y=>tq a b) (fun y=>uN a b)) (MK a b) (fun y h=>by rcases y with y | y<;>cases h) FU i
def qK (a:List Int) (b:List Int):Option Bool:=
 bif ((a.length:Nat):Int) != ((b.length:Nat):Int) then
 some false
 else
 (l7 a b 0).bind fun y_=>aC y_ (fun x0=>
 some false)
 (fun x1=>
 some true)
theorem G8 (a:List Int) (b:List Int):∀r,qK a b=some r→au Tryz.prog 131 0 [SL (cI .u32) a,SL (cI .u32) b] [] (B r) []:=
 ay (enc:=fun r=>B r) (aU:=fun r=>[]) 10 (.op 10002 (.ln (cI .u32) a) (.op 10006 (.ln (cI .u32) b) (.br 100000010 (.ret false) (.ps 1000001 [.k [0,1,5] []] (.lp2 0 (MS a b 0) (fun x0=>.ret false) (fun x1=>.ret true)))))) Tryz.func131 (by kernel_rfl) (by kernel_rfl) (by kernel_rfl)
def qM (a:Rat) (b:Rat):Option Bool:=
 bif a.Neg==b.Neg then
 (qK a.Num b.Num).bind fun x0=>
 bif x0 then
 (qK a.Den b.Den).bind fun x1=>
 some x1
 else
 some false
 else
 some false
theorem zy (a:Rat) (b:Rat):∀r,qM a b=some r→au Tryz.prog 71 0 [AG Rat.D a,AG Rat.D b] [] (B r) []:=
 ay (enc:=fun r=>B r) (aU:=fun r=>[]) 10 (.br 10012 (.call [] [] (G8 a.Num b.Num) .no fun x0=>.br 10026 (.call [] [] (G8 a.Den b.Den) .no fun x1=>.ret x1) (.ret false)) (.ret false)) Tryz.func71 (by kernel_rfl) (by kernel_rfl) (by kernel_rfl)
def BQ (a:Rat):Option Bool:=
 (qG a).bind fun x0=>
 (qM x0 a).bind fun x1=>
 some x1
theorem Qg (a:Rat):∀r,BQ a=some r→au Tryz.prog 137 0 [AG Rat.D a] [] (B r) []:=
 ay (enc:=fun r=>B r) (aU:=fun r=>[]) 10 (.call [] [] (qO a) .no fun x0=>.call [] [] (zy x0 a) .no fun x1=>.ret x1) Tryz.func137 (by kernel_rfl) (by kernel_rfl) (by kernel_rfl)
def zV (a:Rat) (b:Rat):Option Whole:=
 (H9 (Whole.mk a.Neg a.Num) (Whole.mk false b.Den)).bind fun x0=>
 some x0
theorem Jm (a:Rat) (b:Rat):∀r,zV a b=some r→au Tryz.prog 130 0 [AG Rat.D a,AG Rat.D b] [] (AG Whole.D r) []:=
 ay (enc:=fun r=>AG Whole.D r) (aU:=fun r=>[]) 10 (.call [] [] (UQ (Whole.mk a.Neg a.Num) (Whole.mk false b.Den)) .no fun x0=>.ret x0) Tryz.func130 (by kernel_rfl) (by kernel_rfl) (by kernel_rfl)
def zh (a:Rat) (b:Rat):Option Rat:=
 (qG a).bind fun x0=>
 (qG b).bind fun x1=>
 (zV x0 x1).bind fun x2=>
 (zV x1 x0).bind fun x3=>
 (zq x2 x3).bind fun x4=>
 (uq x0.Den x1.Den).bind fun x5=>
 (lI x4 x5).bind fun x6=>
 some x6
theorem nU (a:Rat) (b:Rat):∀r,zh a b=some r→au Tryz.prog 68 0 [AG Rat.D a,AG Rat.D b] [] (AG Rat.D r) []:=
 ay (enc:=fun r=>AG Rat.D r) (aU:=fun r=>[]) 10 (.call [] [] (qO a) .no fun x0=>.call [] [] (qO b) .no fun x1=>.call [] [] (Jm x0 x1) .no fun x2=>.call [] [] (Jm x1 x0) .no fun x3=>.call [] [] (VQ x2 x3) .no fun x4=>.call [] [] (yu x0.Den x1.Den) .no fun x5=>.call [] [] (o8 x4 x5) .no fun x6=>.ret x6) Tryz.func68 (by kernel_rfl) (by kernel_rfl) (by kernel_rfl)
def DZ (a:Rat) (b:Rat):Option Rat:=
 (qG a).bind fun x0=>
 (qG b).bind fun x1=>
 (uq x0.Num x1.Num).bind fun x2=>
 (uq x0.Den x1.Den).bind fun x3=>
 (lI (Whole.mk (!(x0.Neg==x1.Neg)) x2) x3).bind fun x4=>
 some x4
theorem Vf (a:Rat) (b:Rat):∀r,DZ a b=some r→au Tryz.prog 67 0 [AG Rat.D a,AG Rat.D b] [] (AG Rat.D r) []:=
 ay (enc:=fun r=>AG Rat.D r) (aU:=fun r=>[]) 10 (.call [] [] (qO a) .no fun x0=>.call [] [] (qO b) .no fun x1=>.call [] [] (yu x0.Num x1.Num) .no fun x2=>.call [] [] (yu x0.Den x1.Den) .no fun x3=>.call [] [] (o8 (Whole.mk (!(x0.Neg==x1.Neg)) x2) x3) .no fun x4=>.ret x4) Tryz.func67 (by kernel_rfl) (by kernel_rfl) (by kernel_rfl)
def Lu (n:Int):Option Rat:=
 (XW n).bind fun x0=>
 (lI x0 [1]).bind fun x1=>
 some x1
theorem Gl (n:Int):∀r,Lu n=some r→au Tryz.prog 52 0 [I n] [] (AG Rat.D r) []:=
 ay (enc:=fun r=>AG Rat.D r) (aU:=fun r=>[]) 10 (.call [] [] (XT n) .no fun x0=>.call [] [] (o8 x0 [1]) .no fun x1=>.ret x1) Tryz.func52 (by kernel_rfl) (by kernel_rfl) (by kernel_rfl)
def AQ (l:List Rat) (most:Int) (i:Nat):St:=⟨30,0,[(0,SL Rat.D l),(1,I most),(5,I ((i:Nat):Int))],[]⟩
def Ar (l:List Rat) (most:Int):St:=⟨30,0,[(4,B false)],[]⟩
def Bg (l:List Rat) (most:Int):St:=⟨30,0,[],[]⟩
def ji (l:List Rat) (most:Int) (i:Nat):Option (Nat⊕(Unit⊕Unit)):=
 bif decide (((i:Nat):Int)<((l.length:Nat):Int)) then
 bif decide (i<l.length) then
 bif decide (((((nth l i).Num).length:Nat):Int)>most) then
 some (.inr (.inl ()))
 else
 bif decide (i<l.length) then
 bif decide (((((nth l i).Den).length:Nat):Int)>most) then
 some (.inr (.inl ()))
 else
 bif inK .i64 (((i:Nat):Int)+1) then
 some (.inl (i+1))
 else none
 else none
 else none
 else
 some (.inr (.inr ()))
theorem RU (l:List Rat) (most:Int):∀σ:Nat,aN Tryz.prog (nav [1,0,1,0,0] (ah Tryz.f53)) (fun (σ:Nat)=>AQ l most σ) (fun (y:Unit⊕Unit)=>aC y (fun _=>.ret) (fun _=>(.exit 0))) (fun (y:Unit⊕Unit)=>aC y (fun y=>Ar l most) (fun y=>Bg l most)) σ (ji l most σ)
 | i=>aH 1010 (.op 20004 (.ln Rat.D l) (.br 100000009 (.op 40004 (.el Rat.D l (.up i)) (.op 40010 (.ln (cI .u32) ((nth l i).Num)) (.br 40018 (.ps 1000003 [.k [4] []] (.ret (.inr (.inl ())))) (.op 40022 (.el Rat.D l (.up i)) (.op 40028 (.ln (cI .u32) ((nth l i).Den)) (.br 100000029 (.ps 1000003 [.k [4] []] (.ret (.inr (.inl ())))) (.ps 1000003 [.k [0,1,5] []] (.ret (.inl (i+1)))))))))) (.ps 1000003 [.k [] []] (.ret (.inr (.inr ())))))) (by kernel_rfl)
def BP (l:List Rat) (most:Int) (i:Nat):Option (Unit⊕Unit):=aK (fun (σ:Nat)=>ji l most σ) 100000000000000000000 i
theorem Si (l:List Rat) (most:Int) (i:Nat):∀y:Unit⊕Unit,BP l most i=some y→Runs Tryz.prog (.loop (nav [1,0,1,0,0] (ah Tryz.f53))) (AQ l most i) (aC y (fun _=>.ret) (fun _=>(.exit 0))) ((fun (y:Unit⊕Unit)=>aC y (fun y=>Ar l most) (fun y=>Bg l most)) y):=
 aX (head:=fun (σ:Nat)=>AQ l most σ) (eo:=fun (y:Unit⊕Unit)=>aC y (fun _=>.ret) (fun _=>(.exit 0))) (so:=fun (y:Unit⊕Unit)=>aC y (fun y=>Ar l most) (fun y=>Bg l most)) (RU l most) (fun y h=>by rcases y with y | y<;>cases h) 100000000000000000000 i
def Em (l:List Rat) (most:Int):Option Bool:=
 (BP l most 0).bind fun y_=>aC y_ (fun x0=>
 some false)
 (fun x1=>
 some true)
theorem UN (l:List Rat) (most:Int):∀r,Em l most=some r→au Tryz.prog 53 0 [SL Rat.D l,I most] [] (B r) []:=
 ay (enc:=fun r=>B r) (aU:=fun r=>[]) 10 (.ps 1000001 [.k [0,1,5] []] (.lp2 0 (Si l most 0) (fun x0=>.ret false) (fun x1=>.ret true))) Tryz.func53 (by kernel_rfl) (by kernel_rfl) (by kernel_rfl)
end Go.Ab.M
