import Derived.Test.YtjboagogechleaaGreatTE
namespace Go.Ab.M
open Go.Proofs
set_option linter.unusedVariables false
set_option linter.defProp false
set_option maxRecDepth 100000
def UY (a:List Int) (b:List Int) (out:List Int) (carry:Int) (i:Nat):St:=⟨37,0,[(0,SL (cI .u32) a),(1,SL (cI .u32) b),(5,dM 100007 out),(6,NI .u64 carry),(7,I ((i:Nat):Int))],[(100007,dQ 1 (cI .u32) out)]⟩
def Vq (a:List Int) (b:List Int) (out:List Int):St:=⟨37,0,[(5,dM 100007 out)],[(100007,dQ 1 (cI .u32) out)]⟩
def kY (a:List Int) (b:List Int) (out:List Int) (carry:Int) (i:Nat):Option ((List Int×Int×Nat)⊕(List Int)):=bif decide (((i:Nat):Int)<=(mxI ((a.length:Nat):Int) ((b.length:Nat):Int))) then (mP a ((i:Nat):Int)).bind fun x0=>(mP b ((i:Nat):Int)).bind fun x1=>bif decide (0<=IntKind.wrap .u64 ((IntKind.wrap .u64 (x0+x1))+carry)) then bif decide (0<4294967296) then bif decide (out.length+1<=2147483648) then bif decide (0<=IntKind.wrap .u64 ((IntKind.wrap .u64 (x0+x1))+carry)) then bif decide (0<4294967296) then bif decide (IntKind.wrap .u64 ((IntKind.wrap .u64 (x0+x1))+carry)<=Go.Ab.hi .u64) then bif inK .i64 (((i:Nat):Int)+1) then some (.inl (out++[IntKind.wrap .u32 ((IntKind.wrap .u64 ((IntKind.wrap .u64 (x0+x1))+carry))%4294967296)],(IntKind.wrap .u64 ((IntKind.wrap .u64 (x0+x1))+carry))/4294967296,i+1)) else none else none else none else none else none else none else none else some (.inr out)
theorem VJ (a:List Int) (b:List Int):∀σ:List Int×Int×Nat,aJ Tryz.prog (nav [1,1,1,0,1,0,0] (aj Tryz.f172)) (fun (σ:List Int×Int×Nat)=>UY a b σ.1 σ.2.1 σ.2.2) (fun (_:List Int)=>(.exit 0)) (fun (y:List Int)=>Vq a b y) σ (kY a b σ.1 σ.2.1 σ.2.2)
 | ([],carry,i)=>aB 1010 (.op 40004 (.ln (cI .u32) a) (.op 40008 (.ln (cI .u32) b) (.br 100000015 (.call [] [] (fV a ((i:Nat):Int)) .no fun x0=>.call [] [] (fV b ((i:Nat):Int)) .no fun x1=>.op 70006 .wr (.op 70010 (.ap (cI .u32) [] [IntKind.wrap .u32 ((IntKind.wrap .u64 ((IntKind.wrap .u64 (x0+x1))+carry))%4294967296)] 1 fun _=>⟨rfl,rfl⟩) (.ps 1000003 [.k [0,1,5,6,7] [1011],.m 1011 100007] (.ret (.inl ([IntKind.wrap .u32 ((IntKind.wrap .u64 ((IntKind.wrap .u64 (x0+x1))+carry))%4294967296)],(IntKind.wrap .u64 ((IntKind.wrap .u64 (x0+x1))+carry))/4294967296,i+1)))))) (.ps 1000003 [.k [5] [100007]] (.ret (.inr []))))))
 | (fH::fJ,carry,i)=>aB 1010 (.op 40004 (.ln (cI .u32) a) (.op 40008 (.ln (cI .u32) b) (.br 100000015 (.call [] [] (fV a ((i:Nat):Int)) .no fun x0=>.call [] [] (fV b ((i:Nat):Int)) .no fun x1=>.op 70006 .wr (.op 70010 (.ap (cI .u32) (fH::fJ) [IntKind.wrap .u32 ((IntKind.wrap .u64 ((IntKind.wrap .u64 (x0+x1))+carry))%4294967296)] 1 fun _=>⟨rfl,rfl⟩) (.ps 1000003 [.k [0,1,5,6,7] [1011],.m 1011 100007] (.ret (.inl ((fH::fJ)++[IntKind.wrap .u32 ((IntKind.wrap .u64 ((IntKind.wrap .u64 (x0+x1))+carry))%4294967296)],(IntKind.wrap .u64 ((IntKind.wrap .u64 (x0+x1))+carry))/4294967296,i+1)))))) (.ps 1000003 [.k [5] [100007]] (.ret (.inr (fH::fJ)))))))
def EI (a:List Int) (b:List Int) (out:List Int) (carry:Int) (i:Nat):Option (List Int):=aK (fun (σ:List Int×Int×Nat)=>kY a b σ.1 σ.2.1 σ.2.2) FU (out,carry,i)
def Vb (a:List Int) (b:List Int) (out:List Int) (carry:Int) (i:Nat):=
 aP (VJ a b) (fun _ h=>by cases h) FU (out,carry,i)
def AQ (a:List Int) (b:List Int):Option (List Int):=(EI a b [] 0 0).bind fun x0=>(gQ x0).bind fun x1=>some x1
theorem J9 (a:List Int) (b:List Int):∀r,AQ a b=some r->ak Tryz.prog 172 0 [SL (cI .u32) a,SL (cI .u32) b] [] (SL (cI .u32) r) []:=
 ay 10 (.ps 1000001 [.k [0,1,5,6,7] [100007]] (.lp1 0 (Vb a b [] 0 0) fun x0=>.oz 1 5 100007 1 (cI .u32) x0 (.ps 1 [.k [5] []] (.call [] [] (fM x0) .no fun x1=>.ret x1)))) Tryz.func172
def V3 (a:List Int) (b:List Int) (out:List Int) (i:Nat):St:=⟨27,0,[(0,SL (cI .u32) a),(1,SL (cI .u32) b),(5,SL (cI .u32) out),(6,I ((i:Nat):Int))],[]⟩
def Vh (a:List Int) (b:List Int) (out:List Int):St:=⟨27,0,[(5,SL (cI .u32) out)],[]⟩
def nO (a:List Int) (b:List Int) (out:List Int) (i:Nat):Option ((List Int×Nat)⊕(List Int)):=bif decide (((i:Nat):Int)<((b.length:Nat):Int)) then bif decide (i<=2147483648) then bif decide (i<b.length) then (je a (nth b i) 0).bind fun x0=>bif decide ((List.replicate i 0:List Int).length+x0.length<=2147483648) then (AQ out ((List.replicate i 0)++x0)).bind fun x1=>bif inK .i64 (((i:Nat):Int)+1) then some (.inl (x1,i+1)) else none else none else none else none else some (.inr out)
theorem VQ (a:List Int) (b:List Int):∀σ:List Int×Nat,aJ Tryz.prog (nav [1,1,0,1,0,0] (aj Tryz.f128)) (fun (σ:List Int×Nat)=>V3 a b σ.1 σ.2) (fun (_:List Int)=>(.exit 0)) (fun (y:List Int)=>Vh a b y) σ (nO a b σ.1 σ.2)
 | (out,i)=>aB 1010 (.op 30004 (.ln (cI .u32) b) (.br 100000011 (.op 50002 (.mk (cI .u32) 0 (.up i)) (.op 50010 (.el (cI .u32) b (.up i)) (.call [] [] (rV a (nth b i) 0) .no fun x0=>.op 50016 (.ap (cI .u32) (List.replicate i 0) x0 1 fun _=>⟨rfl,rfl⟩) (.call [] [] (J9 out ((List.replicate i 0)++x0)) .no fun x1=>.ps 1000003 [.k [0,1,5,6] []] (.ret (.inl (x1,i+1))))))) (.ps 1000003 [.k [5] []] (.ret (.inr out)))))
def Eu (a:List Int) (b:List Int) (out:List Int) (i:Nat):Option (List Int):=aK (fun (σ:List Int×Nat)=>nO a b σ.1 σ.2) FU (out,i)
def Wq (a:List Int) (b:List Int) (out:List Int) (i:Nat):=
 aP (VQ a b) (fun _ h=>by cases h) FU (out,i)
def tN (a:List Int) (b:List Int):Option (List Int):=(Eu a b [] 0).bind fun x0=>some x0
theorem wH (a:List Int) (b:List Int):∀r,tN a b=some r->ak Tryz.prog 128 0 [SL (cI .u32) a,SL (cI .u32) b] [] (SL (cI .u32) r) []:=
 ay 10 (.ps 1000001 [.n 5,.k [0,1,5,6] []] (.lp1 0 (Wq a b [] 0) fun x0=>.ret x0)) Tryz.func128
def tJ (a:Whole):Option Whole:=(gQ a.Mag).bind fun x0=>bif a.Neg then some (Whole.mk (decide (((x0.length:Nat):Int)>0)) x0) else some (Whole.mk false x0)
theorem wS (a:Whole):∀r,tJ a=some r->ak Tryz.prog 173 0 [AG Whole.D a] [] (AG Whole.D r) []:=
 ay 10 (.call [] [] (fM a.Mag) .no fun x0=>.br 20006 (.op 20008 (.ln (cI .u32) x0) (.ret (Whole.mk (decide (((x0.length:Nat):Int)>0)) x0))) (.ret (Whole.mk false x0))) Tryz.func173
def xk (a:Whole) (b:Whole):Option Whole:=bif a.Neg==b.Neg then (AQ a.Mag b.Mag).bind fun x0=>(tJ (Whole.mk a.Neg x0)).bind fun x1=>some x1 else (qH a.Mag b.Mag).bind fun x0=>bif decide (x0>=0) then (qE a.Mag b.Mag).bind fun x1=>(tJ (Whole.mk a.Neg x1.1)).bind fun x2=>some x2 else (qE b.Mag a.Mag).bind fun x1=>(tJ (Whole.mk b.Neg x1.1)).bind fun x2=>some x2
theorem YE (a:Whole) (b:Whole):∀r,xk a b=some r->ak Tryz.prog 129 0 [AG Whole.D a,AG Whole.D b] [] (AG Whole.D r) []:=
 ay 10 (.br 100000013 (.call [] [] (J9 a.Mag b.Mag) .no fun x0=>.call [] [] (wS (Whole.mk a.Neg x0)) .no fun x1=>.ret x1) (.call [] [] (rD a.Mag b.Mag) .no fun x0=>.br 100000028 (.call [] [] (rM a.Mag b.Mag) .no fun x1=>.call [] [] (wS (Whole.mk a.Neg x1.1)) .no fun x2=>.ret x2) (.call [] [] (rM b.Mag a.Mag) .no fun x1=>.call [] [] (wS (Whole.mk b.Neg x1.1)) .no fun x2=>.ret x2))) Tryz.func129
def GI (a:Whole) (b:Whole):Option Whole:=(tN a.Mag b.Mag).bind fun x0=>(tJ (Whole.mk (!(a.Neg==b.Neg)) x0)).bind fun x1=>some x1
theorem Za (a:Whole) (b:Whole):∀r,GI a b=some r->ak Tryz.prog 176 0 [AG Whole.D a,AG Whole.D b] [] (AG Whole.D r) []:=
 ay 10 (.call [] [] (wH a.Mag b.Mag) .no fun x0=>.call [] [] (wS (Whole.mk (!(a.Neg==b.Neg)) x0)) .no fun x1=>.ret x1) Tryz.func176
def qL (a:Rat):Option Rat:=(jY (Whole.mk a.Neg a.Num) a.Den).bind fun x0=>some x0
theorem sD (a:Rat):∀r,qL a=some r->ak Tryz.prog 127 0 [AG Rat.D a] [] (AG Rat.D r) []:=
 ay 10 (.call [] [] (mM (Whole.mk a.Neg a.Num) a.Den) .no fun x0=>.ret x0) Tryz.func127
def Nq (a:List Int) (b:List Int) (i:Nat):St:=⟨26,0,[(0,SL (cI .u32) a),(1,SL (cI .u32) b),(5,I ((i:Nat):Int))],[]⟩
def NT (a:List Int) (b:List Int):St:=⟨26,0,[(4,B false)],[]⟩
def Oc (a:List Int) (b:List Int):St:=⟨26,0,[],[]⟩
def eF (a:List Int) (b:List Int) (i:Nat):Option (Nat⊕(Unit⊕Unit)):=bif decide (((i:Nat):Int)<((a.length:Nat):Int)) then bif decide (i<a.length) then bif decide (i<b.length) then bif (nth a i) != (nth b i) then some (.inr (.inl ())) else bif inK .i64 (((i:Nat):Int)+1) then some (.inl (i+1)) else none else none else none else some (.inr (.inr ()))
theorem NQ (a:List Int) (b:List Int):∀σ:Nat,aJ Tryz.prog (nav [1,1,0,1,0,0] (aj Tryz.f131)) (fun (σ:Nat)=>Nq a b σ) (fun (y:Unit⊕Unit)=>aW y (fun _=>.ret) (fun _=>(.exit 0))) (fun (y:Unit⊕Unit)=>aW y (fun y=>NT a b) (fun y=>Oc a b)) σ (eF a b σ)
 | i=>aB 1010 (.op 40004 (.ln (cI .u32) a) (.br 100000014 (.op 60004 (.el (cI .u32) a (.up i)) (.op 60012 (.el (cI .u32) b (.up i)) (.br 100000025 (.ps 1000003 [.k [4] []] (.ret (.inr (.inl ())))) (.ps 1000003 [.k [0,1,5] []] (.ret (.inl (i+1))))))) (.ps 1000003 [.k [] []] (.ret (.inr (.inr ()))))))
def pF (a:List Int) (b:List Int) (i:Nat):Option (Unit⊕Unit):=aK (fun (σ:Nat)=>eF a b σ) FU i
def MP (a:List Int) (b:List Int) (i:Nat):=
 aP (NQ a b) (fun y h=>by rcases y with y | y<;>cases h) FU i
def qG (a:List Int) (b:List Int):Option Bool:=bif ((a.length:Nat):Int) != ((b.length:Nat):Int) then some false else (pF a b 0).bind fun y_=>aW y_ (fun x0=>some false) (fun x1=>some true)
theorem F6 (a:List Int) (b:List Int):∀r,qG a b=some r->ak Tryz.prog 131 0 [SL (cI .u32) a,SL (cI .u32) b] [] (B r) []:=
 ay 10 (.op 10002 (.ln (cI .u32) a) (.op 10006 (.ln (cI .u32) b) (.br 100000010 (.ret false) (.ps 1000001 [.k [0,1,5] []] (.lp2 0 (MP a b 0) (fun x0=>.ret false) (fun x1=>.ret true)))))) Tryz.func131
def qx (a:Rat) (b:Rat):Option Bool:=bif a.Neg==b.Neg then (qG a.Num b.Num).bind fun x0=>bif x0 then (qG a.Den b.Den).bind fun x1=>some x1 else some false else some false
theorem xZ (a:Rat) (b:Rat):∀r,qx a b=some r->ak Tryz.prog 71 0 [AG Rat.D a,AG Rat.D b] [] (B r) []:=
 ay 10 (.br 10012 (.call [] [] (F6 a.Num b.Num) .no fun x0=>.br 10026 (.call [] [] (F6 a.Den b.Den) .no fun x1=>.ret x1) (.ret false)) (.ret false)) Tryz.func71
def uP (a:Rat):Option Bool:=(qL a).bind fun x0=>(qx x0 a).bind fun x1=>some x1
theorem FC (a:Rat):∀r,uP a=some r->ak Tryz.prog 137 0 [AG Rat.D a] [] (B r) []:=
 ay 10 (.call [] [] (sD a) .no fun x0=>.call [] [] (xZ x0 a) .no fun x1=>.ret x1) Tryz.func137
def yE (a:Rat) (b:Rat):Option Whole:=(GI (Whole.mk a.Neg a.Num) (Whole.mk false b.Den)).bind fun x0=>some x0
theorem Ia (a:Rat) (b:Rat):∀r,yE a b=some r->ak Tryz.prog 130 0 [AG Rat.D a,AG Rat.D b] [] (AG Whole.D r) []:=
 ay 10 (.call [] [] (Za (Whole.mk a.Neg a.Num) (Whole.mk false b.Den)) .no fun x0=>.ret x0) Tryz.func130
def xI (a:Rat) (b:Rat):Option Rat:=(qL a).bind fun x0=>(qL b).bind fun x1=>(yE x0 x1).bind fun x2=>(yE x1 x0).bind fun x3=>(xk x2 x3).bind fun x4=>(tN x0.Den x1.Den).bind fun x5=>(jY x4 x5).bind fun x6=>some x6
theorem oL (a:Rat) (b:Rat):∀r,xI a b=some r->ak Tryz.prog 68 0 [AG Rat.D a,AG Rat.D b] [] (AG Rat.D r) []:=
 ay 10 (.call [] [] (sD a) .no fun x0=>.call [] [] (sD b) .no fun x1=>.call [] [] (Ia x0 x1) .no fun x2=>.call [] [] (Ia x1 x0) .no fun x3=>.call [] [] (YE x2 x3) .no fun x4=>.call [] [] (wH x0.Den x1.Den) .no fun x5=>.call [] [] (mM x4 x5) .no fun x6=>.ret x6) Tryz.func68
def Au (a:Rat) (b:Rat):Option Rat:=(qL a).bind fun x0=>(qL b).bind fun x1=>(tN x0.Num x1.Num).bind fun x2=>(tN x0.Den x1.Den).bind fun x3=>(jY (Whole.mk (!(x0.Neg==x1.Neg)) x2) x3).bind fun x4=>some x4
theorem X6 (a:Rat) (b:Rat):∀r,Au a b=some r->ak Tryz.prog 67 0 [AG Rat.D a,AG Rat.D b] [] (AG Rat.D r) []:=
 ay 10 (.call [] [] (sD a) .no fun x0=>.call [] [] (sD b) .no fun x1=>.call [] [] (wH x0.Num x1.Num) .no fun x2=>.call [] [] (wH x0.Den x1.Den) .no fun x3=>.call [] [] (mM (Whole.mk (!(x0.Neg==x1.Neg)) x2) x3) .no fun x4=>.ret x4) Tryz.func67
def Lj (n:Int):Option Rat:=(Bd n).bind fun x0=>(jY x0 [1]).bind fun x1=>some x1
theorem EW (n:Int):∀r,Lj n=some r->ak Tryz.prog 52 0 [I n] [] (AG Rat.D r) []:=
 ay 10 (.call [] [] (O5 n) .no fun x0=>.call [] [] (mM x0 [1]) .no fun x1=>.ret x1) Tryz.func52
end Go.Ab.M
