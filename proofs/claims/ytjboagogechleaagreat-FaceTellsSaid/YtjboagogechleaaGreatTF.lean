import Derived.Test.YtjboagogechleaaGreatTE
namespace Go.Ab.M
open Go.Proofs
set_option linter.unusedVariables false
set_option linter.defProp false
set_option maxRecDepth 100000
def Rt (a:List Int) (b:List Int) (out:List Int) (carry:Int) (i:Nat):St:=⟨37,0,[(0,SL (cI .u32) a),(1,SL (cI .u32) b),(5,fE 100007 out),(6,NI .u64 carry),(7,I ((i:Nat):Int))],[(100007,gI 1 (cI .u32) out)]⟩
def TQ (a:List Int) (b:List Int) (out:List Int):St:=⟨37,0,[(5,fE 100007 out)],[(100007,gI 1 (cI .u32) out)]⟩
def jK (a:List Int) (b:List Int) (out:List Int) (carry:Int) (i:Nat):Option ((List Int×Int×Nat)⊕(List Int)):=bif decide (((i:Nat):Int)<=(mxI ((a.length:Nat):Int) ((b.length:Nat):Int))) then (lg a ((i:Nat):Int)).bind fun x0=>(lg b ((i:Nat):Int)).bind fun x1=>bif decide (0<=IntKind.wrap .u64 ((IntKind.wrap .u64 (x0+x1))+carry)) then bif decide (0<4294967296) then bif decide (out.length+1<=2147483648) then bif decide (0<=IntKind.wrap .u64 ((IntKind.wrap .u64 (x0+x1))+carry)) then bif decide (0<4294967296) then bif decide (IntKind.wrap .u64 ((IntKind.wrap .u64 (x0+x1))+carry)<=Go.Ab.hi .u64) then bif inK .i64 (((i:Nat):Int)+1) then some (.inl (out++[IntKind.wrap .u32 ((IntKind.wrap .u64 ((IntKind.wrap .u64 (x0+x1))+carry))%4294967296)],(IntKind.wrap .u64 ((IntKind.wrap .u64 (x0+x1))+carry))/4294967296,i+1)) else none else none else none else none else none else none else none else some (.inr out)
theorem Uz (a:List Int) (b:List Int):∀σ:List Int×Int×Nat,aH Tryz.prog (nav [1,1,1,0,1,0,0] (ah Tryz.f172)) (fun (σ:List Int×Int×Nat)=>Rt a b σ.1 σ.2.1 σ.2.2) (fun (_:List Int)=>(.exit 0)) (fun (y:List Int)=>TQ a b y) σ (jK a b σ.1 σ.2.1 σ.2.2)
 | ([],carry,i)=>aG 1010 (.op 40004 (.ln (cI .u32) a) (.op 40008 (.ln (cI .u32) b) (.br 100000015 (.call [] [] (eU a ((i:Nat):Int)) .no fun x0=>.call [] [] (eU b ((i:Nat):Int)) .no fun x1=>.op 70006 .wr (.op 70010 (.ap (cI .u32) [] [IntKind.wrap .u32 ((IntKind.wrap .u64 ((IntKind.wrap .u64 (x0+x1))+carry))%4294967296)] 1 fun _=>⟨rfl,rfl⟩) (.ps 1000003 [.k [0,1,5,6,7] [1011],.m 1011 100007] (.ret (.inl ([IntKind.wrap .u32 ((IntKind.wrap .u64 ((IntKind.wrap .u64 (x0+x1))+carry))%4294967296)],(IntKind.wrap .u64 ((IntKind.wrap .u64 (x0+x1))+carry))/4294967296,i+1)))))) (.ps 1000003 [.k [5] [100007]] (.ret (.inr []))))))
 | (iU::iV,carry,i)=>aG 1010 (.op 40004 (.ln (cI .u32) a) (.op 40008 (.ln (cI .u32) b) (.br 100000015 (.call [] [] (eU a ((i:Nat):Int)) .no fun x0=>.call [] [] (eU b ((i:Nat):Int)) .no fun x1=>.op 70006 .wr (.op 70010 (.ap (cI .u32) (iU::iV) [IntKind.wrap .u32 ((IntKind.wrap .u64 ((IntKind.wrap .u64 (x0+x1))+carry))%4294967296)] 1 fun _=>⟨rfl,rfl⟩) (.ps 1000003 [.k [0,1,5,6,7] [1011],.m 1011 100007] (.ret (.inl ((iU::iV)++[IntKind.wrap .u32 ((IntKind.wrap .u64 ((IntKind.wrap .u64 (x0+x1))+carry))%4294967296)],(IntKind.wrap .u64 ((IntKind.wrap .u64 (x0+x1))+carry))/4294967296,i+1)))))) (.ps 1000003 [.k [5] [100007]] (.ret (.inr (iU::iV)))))))
def DX (a:List Int) (b:List Int) (out:List Int) (carry:Int) (i:Nat):Option (List Int):=aJ (fun (σ:List Int×Int×Nat)=>jK a b σ.1 σ.2.1 σ.2.2) FU (out,carry,i)
def RZ (a:List Int) (b:List Int) (out:List Int) (carry:Int) (i:Nat):=
 aP (Uz a b) (fun _ h=>by cases h) FU (out,carry,i)
def zV (a:List Int) (b:List Int):Option (List Int):=(DX a b [] 0 0).bind fun x0=>(fJ x0).bind fun x1=>some x1
theorem I5 (a:List Int) (b:List Int):∀r,zV a b=some r->aj Tryz.prog 172 0 [SL (cI .u32) a,SL (cI .u32) b] [] (SL (cI .u32) r) []:=
 ak 10 (.ps 1000001 [.k [0,1,5,6,7] [100007]] (.lp1 0 (RZ a b [] 0 0) fun x0=>.oz 1 5 100007 1 (cI .u32) x0 (.ps 1 [.k [5] []] (.call [] [] (dZ x0) .no fun x1=>.ret x1)))) Tryz.func172
def SK (a:List Int) (b:List Int) (out:List Int) (i:Nat):St:=⟨27,0,[(0,SL (cI .u32) a),(1,SL (cI .u32) b),(5,SL (cI .u32) out),(6,I ((i:Nat):Int))],[]⟩
def Un (a:List Int) (b:List Int) (out:List Int):St:=⟨27,0,[(5,SL (cI .u32) out)],[]⟩
def lZ (a:List Int) (b:List Int) (out:List Int) (i:Nat):Option ((List Int×Nat)⊕(List Int)):=bif decide (((i:Nat):Int)<((b.length:Nat):Int)) then bif decide (i<=2147483648) then bif decide (i<b.length) then (iK a (nth b i) 0).bind fun x0=>bif decide ((List.replicate i 0:List Int).length+x0.length<=2147483648) then (zV out ((List.replicate i 0)++x0)).bind fun x1=>bif inK .i64 (((i:Nat):Int)+1) then some (.inl (x1,i+1)) else none else none else none else none else some (.inr out)
theorem U3 (a:List Int) (b:List Int):∀σ:List Int×Nat,aH Tryz.prog (nav [1,1,0,1,0,0] (ah Tryz.f128)) (fun (σ:List Int×Nat)=>SK a b σ.1 σ.2) (fun (_:List Int)=>(.exit 0)) (fun (y:List Int)=>Un a b y) σ (lZ a b σ.1 σ.2)
 | (out,i)=>aG 1010 (.op 30004 (.ln (cI .u32) b) (.br 100000011 (.op 50002 (.mk (cI .u32) 0 (.up i)) (.op 50010 (.el (cI .u32) b (.up i)) (.call [] [] (qw a (nth b i) 0) .no fun x0=>.op 50016 (.ap (cI .u32) (List.replicate i 0) x0 1 fun _=>⟨rfl,rfl⟩) (.call [] [] (I5 out ((List.replicate i 0)++x0)) .no fun x1=>.ps 1000003 [.k [0,1,5,6] []] (.ret (.inl (x1,i+1))))))) (.ps 1000003 [.k [5] []] (.ret (.inr out)))))
def Cc (a:List Int) (b:List Int) (out:List Int) (i:Nat):Option (List Int):=aJ (fun (σ:List Int×Nat)=>lZ a b σ.1 σ.2) FU (out,i)
def SQ (a:List Int) (b:List Int) (out:List Int) (i:Nat):=
 aP (U3 a b) (fun _ h=>by cases h) FU (out,i)
def sK (a:List Int) (b:List Int):Option (List Int):=(Cc a b [] 0).bind fun x0=>some x0
theorem vH (a:List Int) (b:List Int):∀r,sK a b=some r->aj Tryz.prog 128 0 [SL (cI .u32) a,SL (cI .u32) b] [] (SL (cI .u32) r) []:=
 ak 10 (.ps 1000001 [.n 5,.k [0,1,5,6] []] (.lp1 0 (SQ a b [] 0) fun x0=>.ret x0)) Tryz.func128
def rW (a:Whole):Option Whole:=(fJ a.Mag).bind fun x0=>bif a.Neg then some (Whole.mk (decide (((x0.length:Nat):Int)>0)) x0) else some (Whole.mk false x0)
theorem vV (a:Whole):∀r,rW a=some r->aj Tryz.prog 173 0 [AG Whole.D a] [] (AG Whole.D r) []:=
 ak 10 (.call [] [] (dZ a.Mag) .no fun x0=>.br 20006 (.op 20008 (.ln (cI .u32) x0) (.ret (Whole.mk (decide (((x0.length:Nat):Int)>0)) x0))) (.ret (Whole.mk false x0))) Tryz.func173
def wu (a:Whole) (b:Whole):Option Whole:=bif a.Neg==b.Neg then (zV a.Mag b.Mag).bind fun x0=>(rW (Whole.mk a.Neg x0)).bind fun x1=>some x1 else (pV a.Mag b.Mag).bind fun x0=>bif decide (x0>=0) then (pG a.Mag b.Mag).bind fun x1=>(rW (Whole.mk a.Neg x1.1)).bind fun x2=>some x2 else (pG b.Mag a.Mag).bind fun x1=>(rW (Whole.mk b.Neg x1.1)).bind fun x2=>some x2
theorem YE (a:Whole) (b:Whole):∀r,wu a b=some r->aj Tryz.prog 129 0 [AG Whole.D a,AG Whole.D b] [] (AG Whole.D r) []:=
 ak 10 (.br 100000013 (.call [] [] (I5 a.Mag b.Mag) .no fun x0=>.call [] [] (vV (Whole.mk a.Neg x0)) .no fun x1=>.ret x1) (.call [] [] (qy a.Mag b.Mag) .no fun x0=>.br 100000028 (.call [] [] (qI a.Mag b.Mag) .no fun x1=>.call [] [] (vV (Whole.mk a.Neg x1.1)) .no fun x2=>.ret x2) (.call [] [] (qI b.Mag a.Mag) .no fun x1=>.call [] [] (vV (Whole.mk b.Neg x1.1)) .no fun x2=>.ret x2))) Tryz.func129
def EP (a:Whole) (b:Whole):Option Whole:=(sK a.Mag b.Mag).bind fun x0=>(rW (Whole.mk (!(a.Neg==b.Neg)) x0)).bind fun x1=>some x1
theorem XH (a:Whole) (b:Whole):∀r,EP a b=some r->aj Tryz.prog 176 0 [AG Whole.D a,AG Whole.D b] [] (AG Whole.D r) []:=
 ak 10 (.call [] [] (vH a.Mag b.Mag) .no fun x0=>.call [] [] (vV (Whole.mk (!(a.Neg==b.Neg)) x0)) .no fun x1=>.ret x1) Tryz.func176
def qg (a:Rat):Option Rat:=(kR (Whole.mk a.Neg a.Num) a.Den).bind fun x0=>some x0
theorem qE (a:Rat):∀r,qg a=some r->aj Tryz.prog 127 0 [AG Rat.D a] [] (AG Rat.D r) []:=
 ak 10 (.call [] [] (oN (Whole.mk a.Neg a.Num) a.Den) .no fun x0=>.ret x0) Tryz.func127
def LU (a:List Int) (b:List Int) (i:Nat):St:=⟨26,0,[(0,SL (cI .u32) a),(1,SL (cI .u32) b),(5,I ((i:Nat):Int))],[]⟩
def MH (a:List Int) (b:List Int):St:=⟨26,0,[(4,B false)],[]⟩
def LP (a:List Int) (b:List Int):St:=⟨26,0,[],[]⟩
def dK (a:List Int) (b:List Int) (i:Nat):Option (Nat⊕(Unit⊕Unit)):=bif decide (((i:Nat):Int)<((a.length:Nat):Int)) then bif decide (i<a.length) then bif decide (i<b.length) then bif (nth a i) != (nth b i) then some (.inr (.inl ())) else bif inK .i64 (((i:Nat):Int)+1) then some (.inl (i+1)) else none else none else none else some (.inr (.inr ()))
theorem KH (a:List Int) (b:List Int):∀σ:Nat,aH Tryz.prog (nav [1,1,0,1,0,0] (ah Tryz.f131)) (fun (σ:Nat)=>LU a b σ) (fun (y:Unit⊕Unit)=>aX y (fun _=>.ret) (fun _=>(.exit 0))) (fun (y:Unit⊕Unit)=>aX y (fun y=>MH a b) (fun y=>LP a b)) σ (dK a b σ)
 | i=>aG 1010 (.op 40004 (.ln (cI .u32) a) (.br 100000014 (.op 60004 (.el (cI .u32) a (.up i)) (.op 60012 (.el (cI .u32) b (.up i)) (.br 100000025 (.ps 1000003 [.k [4] []] (.ret (.inr (.inl ())))) (.ps 1000003 [.k [0,1,5] []] (.ret (.inl (i+1))))))) (.ps 1000003 [.k [] []] (.ret (.inr (.inr ()))))))
def ou (a:List Int) (b:List Int) (i:Nat):Option (Unit⊕Unit):=aJ (fun (σ:Nat)=>dK a b σ) FU i
def KC (a:List Int) (b:List Int) (i:Nat):=
 aP (KH a b) (fun y h=>by rcases y with y | y<;>cases h) FU i
def pq (a:List Int) (b:List Int):Option Bool:=bif ((a.length:Nat):Int) != ((b.length:Nat):Int) then some false else (ou a b 0).bind fun y_=>aX y_ (fun x0=>some false) (fun x1=>some true)
theorem DN (a:List Int) (b:List Int):∀r,pq a b=some r->aj Tryz.prog 131 0 [SL (cI .u32) a,SL (cI .u32) b] [] (B r) []:=
 ak 10 (.op 10002 (.ln (cI .u32) a) (.op 10006 (.ln (cI .u32) b) (.br 100000010 (.ret false) (.ps 1000001 [.k [0,1,5] []] (.lp2 0 (KC a b 0) (fun x0=>.ret false) (fun x1=>.ret true)))))) Tryz.func131
def lN (a:Rat) (b:Rat):Option Bool:=bif a.Neg==b.Neg then (pq a.Num b.Num).bind fun x0=>bif x0 then (pq a.Den b.Den).bind fun x1=>some x1 else some false else some false
theorem qL (a:Rat) (b:Rat):∀r,lN a b=some r->aj Tryz.prog 71 0 [AG Rat.D a,AG Rat.D b] [] (B r) []:=
 ak 10 (.br 10012 (.call [] [] (DN a.Num b.Num) .no fun x0=>.br 10026 (.call [] [] (DN a.Den b.Den) .no fun x1=>.ret x1) (.ret false)) (.ret false)) Tryz.func71
def yL (a:Rat):Option Bool:=(qg a).bind fun x0=>(lN x0 a).bind fun x1=>some x1
theorem U8 (a:Rat):∀r,yL a=some r->aj Tryz.prog 137 0 [AG Rat.D a] [] (B r) []:=
 ak 10 (.call [] [] (qE a) .no fun x0=>.call [] [] (qL x0 a) .no fun x1=>.ret x1) Tryz.func137
def wX (a:Rat) (b:Rat):Option Whole:=(EP (Whole.mk a.Neg a.Num) (Whole.mk false b.Den)).bind fun x0=>some x0
theorem FB (a:Rat) (b:Rat):∀r,wX a b=some r->aj Tryz.prog 130 0 [AG Rat.D a,AG Rat.D b] [] (AG Whole.D r) []:=
 ak 10 (.call [] [] (XH (Whole.mk a.Neg a.Num) (Whole.mk false b.Den)) .no fun x0=>.ret x0) Tryz.func130
def sG (a:Rat) (b:Rat):Option Rat:=(qg a).bind fun x0=>(qg b).bind fun x1=>(wX x0 x1).bind fun x2=>(wX x1 x0).bind fun x3=>(wu x2 x3).bind fun x4=>(sK x0.Den x1.Den).bind fun x5=>(kR x4 x5).bind fun x6=>some x6
theorem AQ (a:Rat) (b:Rat):∀r,sG a b=some r->aj Tryz.prog 68 0 [AG Rat.D a,AG Rat.D b] [] (AG Rat.D r) []:=
 ak 10 (.call [] [] (qE a) .no fun x0=>.call [] [] (qE b) .no fun x1=>.call [] [] (FB x0 x1) .no fun x2=>.call [] [] (FB x1 x0) .no fun x3=>.call [] [] (YE x2 x3) .no fun x4=>.call [] [] (vH x0.Den x1.Den) .no fun x5=>.call [] [] (oN x4 x5) .no fun x6=>.ret x6) Tryz.func68
def vY (a:Rat) (b:Rat):Option Rat:=(qg a).bind fun x0=>(qg b).bind fun x1=>(sK x0.Num x1.Num).bind fun x2=>(sK x0.Den x1.Den).bind fun x3=>(kR (Whole.mk (!(x0.Neg==x1.Neg)) x2) x3).bind fun x4=>some x4
theorem J5 (a:Rat) (b:Rat):∀r,vY a b=some r->aj Tryz.prog 67 0 [AG Rat.D a,AG Rat.D b] [] (AG Rat.D r) []:=
 ak 10 (.call [] [] (qE a) .no fun x0=>.call [] [] (qE b) .no fun x1=>.call [] [] (vH x0.Num x1.Num) .no fun x2=>.call [] [] (vH x0.Den x1.Den) .no fun x3=>.call [] [] (oN (Whole.mk (!(x0.Neg==x1.Neg)) x2) x3) .no fun x4=>.ret x4) Tryz.func67
def lU (n:Int):Option Rat:=(Ef n).bind fun x0=>(kR x0 [1]).bind fun x1=>some x1
theorem mO (n:Int):∀r,lU n=some r->aj Tryz.prog 52 0 [I n] [] (AG Rat.D r) []:=
 ak 10 (.call [] [] (ZI n) .no fun x0=>.call [] [] (oN x0 [1]) .no fun x1=>.ret x1) Tryz.func52
def RF (l:List Rat) (most:Int) (i:Nat):St:=⟨30,0,[(0,SL Rat.D l),(1,I most),(5,I ((i:Nat):Int))],[]⟩
def U4 (l:List Rat) (most:Int):St:=⟨30,0,[(4,B false)],[]⟩
def SS (l:List Rat) (most:Int):St:=⟨30,0,[],[]⟩
def iM (l:List Rat) (most:Int) (i:Nat):Option (Nat⊕(Unit⊕Unit)):=bif decide (((i:Nat):Int)<((l.length:Nat):Int)) then bif decide (i<l.length) then bif decide (((((nth l i).Num).length:Nat):Int)>most) then some (.inr (.inl ())) else bif decide (i<l.length) then bif decide (((((nth l i).Den).length:Nat):Int)>most) then some (.inr (.inl ())) else bif inK .i64 (((i:Nat):Int)+1) then some (.inl (i+1)) else none else none else none else some (.inr (.inr ()))
theorem QE (l:List Rat) (most:Int):∀σ:Nat,aH Tryz.prog (nav [1,0,1,0,0] (ah Tryz.f53)) (fun (σ:Nat)=>RF l most σ) (fun (y:Unit⊕Unit)=>aX y (fun _=>.ret) (fun _=>(.exit 0))) (fun (y:Unit⊕Unit)=>aX y (fun y=>U4 l most) (fun y=>SS l most)) σ (iM l most σ)
 | i=>aG 1010 (.op 20004 (.ln Rat.D l) (.br 100000009 (.op 40004 (.el Rat.D l (.up i)) (.op 40010 (.ln (cI .u32) ((nth l i).Num)) (.br 40018 (.ps 1000003 [.k [4] []] (.ret (.inr (.inl ())))) (.op 40022 (.el Rat.D l (.up i)) (.op 40028 (.ln (cI .u32) ((nth l i).Den)) (.br 100000029 (.ps 1000003 [.k [4] []] (.ret (.inr (.inl ())))) (.ps 1000003 [.k [0,1,5] []] (.ret (.inl (i+1)))))))))) (.ps 1000003 [.k [] []] (.ret (.inr (.inr ()))))))
def DI (l:List Rat) (most:Int) (i:Nat):Option (Unit⊕Unit):=aJ (fun (σ:Nat)=>iM l most σ) 100000000000000000000 i
def Uo (l:List Rat) (most:Int) (i:Nat):=
 aP (QE l most) (fun y h=>by rcases y with y | y<;>cases h) 100000000000000000000 i
def zJ (l:List Rat) (most:Int):Option Bool:=(DI l most 0).bind fun y_=>aX y_ (fun x0=>some false) (fun x1=>some true)
theorem Yv (l:List Rat) (most:Int):∀r,zJ l most=some r->aj Tryz.prog 53 0 [SL Rat.D l,I most] [] (B r) []:=
 ak 10 (.ps 1000001 [.k [0,1,5] []] (.lp2 0 (Uo l most 0) (fun x0=>.ret false) (fun x1=>.ret true))) Tryz.func53
def Vb (a:List Rat) (b:List Rat) (i:Nat):St:=⟨29,0,[(0,SL Rat.D a),(1,SL Rat.D b),(5,I ((i:Nat):Int))],[]⟩
def UL (a:List Rat) (b:List Rat):St:=⟨29,0,[(4,B false)],[]⟩
def Vh (a:List Rat) (b:List Rat):St:=⟨29,0,[],[]⟩
def mM (a:List Rat) (b:List Rat) (i:Nat):Option (Nat⊕(Unit⊕Unit)):=bif decide (((i:Nat):Int)<((a.length:Nat):Int)) then bif decide (i<a.length) then bif decide (i<b.length) then (lN (nth a i) (nth b i)).bind fun x0=>bif !x0 then some (.inr (.inl ())) else bif inK .i64 (((i:Nat):Int)+1) then some (.inl (i+1)) else none else none else none else some (.inr (.inr ()))
theorem UF (a:List Rat) (b:List Rat):∀σ:Nat,aH Tryz.prog (nav [1,1,0,1,0,0] (ah Tryz.f76)) (fun (σ:Nat)=>Vb a b σ) (fun (y:Unit⊕Unit)=>aX y (fun _=>.ret) (fun _=>(.exit 0))) (fun (y:Unit⊕Unit)=>aX y (fun y=>UL a b) (fun y=>Vh a b)) σ (mM a b σ)
 | i=>aG 1010 (.op 40004 (.ln Rat.D a) (.br 100000015 (.op 60004 (.el Rat.D a (.up i)) (.op 60012 (.el Rat.D b (.up i)) (.call [] [] (qL (nth a i) (nth b i)) .no fun x0=>.br 100000028 (.ps 1000003 [.k [4] []] (.ret (.inr (.inl ())))) (.ps 1000003 [.k [0,1,5] []] (.ret (.inl (i+1))))))) (.ps 1000003 [.k [] []] (.ret (.inr (.inr ()))))))
def CB (a:List Rat) (b:List Rat) (i:Nat):Option (Unit⊕Unit):=aJ (fun (σ:Nat)=>mM a b σ) FU i
def U0 (a:List Rat) (b:List Rat) (i:Nat):=
 aP (UF a b) (fun y h=>by rcases y with y | y<;>cases h) FU i
def E5 (a:List Rat) (b:List Rat):Option Bool:=bif ((a.length:Nat):Int) != ((b.length:Nat):Int) then some false else (CB a b 0).bind fun y_=>aX y_ (fun x0=>some false) (fun x1=>some true)
theorem XQ (a:List Rat) (b:List Rat):∀r,E5 a b=some r->aj Tryz.prog 76 0 [SL Rat.D a,SL Rat.D b] [] (B r) []:=
 ak 10 (.op 10002 (.ln Rat.D a) (.op 10006 (.ln Rat.D b) (.br 100000011 (.ret false) (.ps 1000001 [.k [0,1,5] []] (.lp2 0 (U0 a b 0) (fun x0=>.ret false) (fun x1=>.ret true)))))) Tryz.func76
end Go.Ab.M
