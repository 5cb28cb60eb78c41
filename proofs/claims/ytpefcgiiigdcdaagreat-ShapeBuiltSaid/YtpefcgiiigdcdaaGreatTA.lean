import Derived.Test.YtpefcgiiigdcdaaGreatCL
namespace Go.Ab.M
open Go.Proofs
set_option linter.unusedVariables false
set_option maxRecDepth 100000
structure Pair where
 From:Int
 To:Int
 deriving DecidableEq,Inhabited
abbrev Pair.D (x:Pair):List D:=[.v (.int .i64 x.From),.v (.int .i64 x.To)]
structure Shape where
 Ins:Int
 bJ:Int
 aH:Int
 All:List Pair
 deriving DecidableEq,Inhabited
abbrev Shape.D (x:Shape):List D:=[.v (.int .i64 x.Ins),.v (.int .i64 x.bJ),.v (.int .i64 x.aH),.sl (x.All.map Pair.D)]
def CU (s:Shape):Option Int:=
 bif inK .i64 (s.Ins+s.bJ) then
 bif inK .i64 ((s.Ins+s.bJ)+s.aH) then
 some ((s.Ins+s.bJ)+s.aH)
 else none
 else none
theorem FB (s:Shape):∀r,CU s=some r→aj Tryz.prog 99 0 [AG Shape.D s] [] (I r) []:=
 ak (enc:=fun r=>I r) (aP:=fun r=>[]) 10 (.ret ((s.Ins+s.bJ)+s.aH)) Tryz.func99 (by kernel_rfl) (by kernel_rfl) (by kernel_rfl)
def cmp_isNaN_int (x:Int):Option Bool:=
 some (x != x)
theorem qW (x:Int):∀r,cmp_isNaN_int x=some r→aj Tryz.prog 173 0 [I x] [] (B r) []:=
 ak (enc:=fun r=>B r) (aP:=fun r=>[]) 10 (.ret (x != x)) Tryz.func173 (by kernel_rfl) (by kernel_rfl) (by kernel_rfl)
def cmp_Compare_int (x:Int) (y:Int):Option Int:=
 (cmp_isNaN_int x).bind fun x0=>
 (cmp_isNaN_int y).bind fun x1=>
 bif x0 then
 bif x1 then
 some 0
 else
 some (-1)
 else
 bif x1 then
 some 1
 else
 bif decide (x<y) then
 some (-1)
 else
 bif decide (x>y) then
 some 1
 else
 some 0
theorem gU (x:Int) (y:Int):∀r,cmp_Compare_int x y=some r→aj Tryz.prog 124 0 [I x,I y] [] (I r) []:=
 ak (enc:=fun r=>I r) (aP:=fun r=>[]) 10 (.call [] [] (qW x) .no fun x0=>.call [] [] (qW y) .no fun x1=>.br 100000011 (.br 100000012 (.ret 0) (.ret (-1))) (.br 100000013 (.ret 1) (.br 100000016 (.ret (-1)) (.br 100000019 (.ret 1) (.ret 0))))) Tryz.func124 (by kernel_rfl) (by kernel_rfl) (by kernel_rfl)
def Ag (vals:List Int) (i:Nat):St:=⟨18,0,[(3,I 0),(6,SL (cI .i64) vals),(7,I ((vals.length:Nat):Int)),(8,I ((i:Nat):Int))],[]⟩
def zV (vals:List Int) (i:Int):St:=⟨18,0,[(2,I i)],[]⟩
def Ap (vals:List Int):St:=⟨18,0,[(3,I 0)],[]⟩
def aS (vals:List Int) (i:Nat):Option (Nat⊕(Int⊕Unit)):=
 bif decide (((i:Nat):Int)<((vals.length:Nat):Int)) then
 bif decide (i<vals.length) then
 bif (nth vals i) != 0 then
 some (.inr (.inl (nth vals i)))
 else
 bif inK .i64 (((i:Nat):Int)+1) then
 some (.inl (i+1))
 else none
 else none
 else
 some (.inr (.inr ()))
theorem Ua (vals:List Int):∀σ:Nat,aJ Tryz.prog (nav [1,1,0,1,0,0] (ah Tryz.f123)) (fun (σ:Nat)=>Ag vals σ) (fun (y:Int⊕Unit)=>aN y (fun _=>.ret) (fun _=>(.exit 0))) (fun (y:Int⊕Unit)=>aN y (fun y=>zV vals y) (fun y=>Ap vals)) σ (aS vals σ)
 | i=>aB 1010 (.br 100000009 (.op 40000 (.el (cI .i64) vals (.up i)) (.br 100000014 (.ps 1000003 [.k [2] []] (.ret (.inr (.inl (nth vals i))))) (.ps 1000003 [.k [3,6,7,8] []] (.ret (.inl (i+1)))))) (.ps 1000003 [.k [3] []] (.ret (.inr (.inr ()))))) (by kernel_rfl)
def wB (vals:List Int) (i:Nat):Option (Int⊕Unit):=aK (fun (σ:Nat)=>aS vals σ) FU i
theorem Tn (vals:List Int) (i:Nat):∀y:Int⊕Unit,wB vals i=some y→Runs Tryz.prog (.loop (nav [1,1,0,1,0,0] (ah Tryz.f123))) (Ag vals i) (aN y (fun _=>.ret) (fun _=>(.exit 0))) ((fun (y:Int⊕Unit)=>aN y (fun y=>zV vals y) (fun y=>Ap vals)) y):=
 aU (head:=fun (σ:Nat)=>Ag vals σ) (eo:=fun (y:Int⊕Unit)=>aN y (fun _=>.ret) (fun _=>(.exit 0))) (so:=fun (y:Int⊕Unit)=>aN y (fun y=>zV vals y) (fun y=>Ap vals)) (Ua vals) (fun y h=>by rcases y with y | y<;>cases h) FU i
def lS (vals:List Int):Option Int:=
 (wB vals 0).bind fun y_=>aN y_ (fun x0=>
 some x0)
 (fun x1=>
 some 0)
theorem FK (vals:List Int):∀r,lS vals=some r→aj Tryz.prog 123 0 [SL (cI .i64) vals] [] (I r) []:=
 ak (enc:=fun r=>I r) (aP:=fun r=>[]) 10 (.op 20002 (.ln (cI .i64) vals) (.ps 1000001 [.k [3,6,7,8] []] (.lp2 0 (Tn vals 0) (fun x0=>.ret x0) (fun x1=>.ret 0)))) Tryz.func123 (by kernel_rfl) (by kernel_rfl) (by kernel_rfl)
def uw (a:Pair) (b:Pair):Option Int:=
 (cmp_Compare_int a.From b.From).bind fun x0=>
 (cmp_Compare_int a.To b.To).bind fun x1=>
 (lS [x0,x1]).bind fun x2=>
 some x2
theorem Ko (a:Pair) (b:Pair):∀r,uw a b=some r→aj Tryz.prog 90 0 [AG Pair.D a,AG Pair.D b] [] (I r) []:=
 ak (enc:=fun r=>I r) (aP:=fun r=>[]) 10 (.call [] [] (gU a.From b.From) .no fun x0=>.call [] [] (gU a.To b.To) .no fun x1=>.call [] [] (FK [x0,x1]) (.yes fun _=>⟨rfl,trivial⟩) fun x2=>.ret x2) Tryz.func90 (by kernel_rfl) (by kernel_rfl) (by kernel_rfl)
def xP (tA:Shape) (i:Nat):St:=⟨91,0,[(1,.ptr 10 0 0),(34,SL Pair.D tA.All),(35,I ((tA.All.length:Nat):Int)),(36,I ((i:Nat):Int))],[(10,BOX [I tA.Ins,I tA.bJ,I tA.aH,SL Pair.D tA.All])]⟩
def yj (tA:Shape):St:=⟨91,0,[(2,B false)],[]⟩
def xg (tA:Shape):St:=⟨91,0,[],[]⟩
def iO (tA:Shape) (i:Nat):Option (Nat⊕(Unit⊕Unit)):=
 bif decide (((i:Nat):Int)<((tA.All.length:Nat):Int)) then
 bif decide (i<tA.All.length) then
 bif decide (((nth tA.All i).From)<0) then
 some (.inr (.inl ()))
 else
 bif inK .i64 (tA.Ins+tA.bJ) then
 bif decide (((nth tA.All i).From)≥(tA.Ins+tA.bJ)) then
 some (.inr (.inl ()))
 else
 bif decide (((nth tA.All i).To)<tA.Ins) then
 some (.inr (.inl ()))
 else
 (CU tA).bind fun x0=>
 bif decide (((nth tA.All i).To)≥x0) then
 some (.inr (.inl ()))
 else
 bif decide (((nth tA.All i).From)≥((nth tA.All i).To)) then
 some (.inr (.inl ()))
 else
 bif decide (((i:Nat):Int)>0) then
 bif inK .i64 (((i:Nat):Int)-1) then
 bif decide (0≤((i:Nat):Int)-1) then
 bif decide ((((i:Nat):Int)-1).toNat<tA.All.length) then
 (uw (nth tA.All ((((i:Nat):Int)-1).toNat)) (nth tA.All i)).bind fun x1=>
 bif decide (x1≥0) then
 some (.inr (.inl ()))
 else
 bif inK .i64 (((i:Nat):Int)+1) then
 some (.inl (i+1))
 else none
 else none
 else none
 else none
 else
 bif inK .i64 (((i:Nat):Int)+1) then
 some (.inl (i+1))
 else none
 else none
 else none
 else
 some (.inr (.inr ()))
theorem Qo (tA:Shape):∀σ:Nat,aJ Tryz.prog (nav [1,1,0,1,0,0] (ah Tryz.f41)) (fun (σ:Nat)=>xP tA σ) (fun (y:Unit⊕Unit)=>aN y (fun _=>.ret) (fun _=>(.exit 0))) (fun (y:Unit⊕Unit)=>aN y (fun y=>yj tA) (fun y=>xg tA)) σ (iO tA σ)
 | i=>aB 1010 (.br 100000037 (.op 50002 (.el Pair.D tA.All (.up i)) (.br 60008 (.ps 1000003 [.k [2] []] (.ret (.inr (.inl ())))) (.br 60028 (.ps 1000003 [.k [2] []] (.ret (.inr (.inl ())))) (.br 60042 (.ps 1000003 [.k [2] []] (.ret (.inr (.inl ())))) (.call [] [] (FB tA) .no fun x0=>.br 60056 (.ps 1000003 [.k [2] []] (.ret (.inr (.inl ())))) (.br 60070 (.ps 1000003 [.k [2] []] (.ret (.inr (.inl ())))) (.br 60076 (.op 60084 (.el Pair.D tA.All .dn) (.call [] [] (Ko (nth tA.All ((((i:Nat):Int)-1).toNat)) (nth tA.All i)) .no fun x1=>.br 100000089 (.ps 1000003 [.k [2] []] (.ret (.inr (.inl ())))) (.ps 1000003 [.k [1,34,35,36] [10]] (.ret (.inl (i+1)))))) (.ps 1000003 [.k [1,34,35,36] [10]] (.ret (.inl (i+1))))))))))) (.ps 1000003 [.k [] []] (.ret (.inr (.inr ()))))) (by kernel_rfl)
def yD (tA:Shape) (i:Nat):Option (Unit⊕Unit):=aK (fun (σ:Nat)=>iO tA σ) FU i
theorem Qm (tA:Shape) (i:Nat):∀y:Unit⊕Unit,yD tA i=some y→Runs Tryz.prog (.loop (nav [1,1,0,1,0,0] (ah Tryz.f41))) (xP tA i) (aN y (fun _=>.ret) (fun _=>(.exit 0))) ((fun (y:Unit⊕Unit)=>aN y (fun y=>yj tA) (fun y=>xg tA)) y):=
 aU (head:=fun (σ:Nat)=>xP tA σ) (eo:=fun (y:Unit⊕Unit)=>aN y (fun _=>.ret) (fun _=>(.exit 0))) (so:=fun (y:Unit⊕Unit)=>aN y (fun y=>yj tA) (fun y=>xg tA)) (Qo tA) (fun y h=>by rcases y with y | y<;>cases h) FU i
def je (tA:Shape):Option Bool:=
 bif decide (tA.Ins<1) then
 some false
 else
 bif decide (tA.Ins>40) then
 some false
 else
 bif decide (tA.aH<1) then
 some false
 else
 bif decide (tA.aH>40) then
 some false
 else
 bif decide (tA.bJ<0) then
 some false
 else
 bif decide (tA.bJ>400) then
 some false
 else
 (yD tA 0).bind fun y_=>aN y_ (fun x0=>
 some false)
 (fun x1=>
 some true)
theorem jV (tA:Shape):∀r,je tA=some r→aj Tryz.prog 41 0 [AG Shape.D tA] [] (B r) []:=
 ak (enc:=fun r=>B r) (aP:=fun r=>[]) 10 (.br 10008 (.ret false) (.br 10018 (.ret false) (.br 10028 (.ret false) (.br 10038 (.ret false) (.br 10048 (.ret false) (.br 100000032 (.ret false) (.op 30004 (.ln Pair.D tA.All) (.ps 1000001 [.k [1,34,35,36] [10]] (.lp2 0 (Qm tA 0) (fun x0=>.ret false) (fun x1=>.ret true)))))))))) Tryz.func41 (by kernel_rfl) (by kernel_rfl) (by kernel_rfl)
def KW (s:Shape) (v:Int):Option Bool:=
 bif decide (v≥s.Ins) then
 bif inK .i64 (s.Ins+s.bJ) then
 some (decide (v<(s.Ins+s.bJ)))
 else none
 else
 some false
theorem Ho (s:Shape) (v:Int):∀r,KW s v=some r→aj Tryz.prog 60 0 [AG Shape.D s,I v] [] (B r) []:=
 ak (enc:=fun r=>B r) (aP:=fun r=>[]) 10 (.br 10010 (.ret (decide (v<(s.Ins+s.bJ)))) (.ret false)) Tryz.func60 (by kernel_rfl) (by kernel_rfl) (by kernel_rfl)
def zO (s:Shape) (v:Int) (in1:List Int) (out:List Int) (i:Nat):St:=⟨36,0,[(1,I v),(4,bZ 100001 in1),(5,bZ 100002 out),(9,SL Pair.D s.All),(10,I ((s.All.length:Nat):Int)),(11,I ((i:Nat):Int))],[(100001,dG 1 (cI .i64) in1),(100002,dG 1 (cI .i64) out)]⟩
def zL (s:Shape) (v:Int) (in1:List Int) (out:List Int):St:=⟨36,0,[(4,bZ 100001 in1),(5,bZ 100002 out)],[(100001,dG 1 (cI .i64) in1),(100002,dG 1 (cI .i64) out)]⟩
def IW (s:Shape) (v:Int) (in1:List Int) (out:List Int) (i:Nat):Option ((List Int×List Int×Nat)⊕(List Int×List Int)):=
 bif decide (((i:Nat):Int)<((s.All.length:Nat):Int)) then
 bif decide (i<s.All.length) then
 bif ((nth s.All i).To)==v then
 bif decide (in1.length+1≤2147483648) then
 bif ((nth s.All i).From)==v then
 bif decide (out.length+1≤2147483648) then
 bif inK .i64 (((i:Nat):Int)+1) then
 some (.inl (in1++[(nth s.All i).From],out++[(nth s.All i).To],i+1))
 else none
 else none
 else
 bif inK .i64 (((i:Nat):Int)+1) then
 some (.inl (in1++[(nth s.All i).From],out,i+1))
 else none
 else none
 else
 bif ((nth s.All i).From)==v then
 bif decide (out.length+1≤2147483648) then
 bif inK .i64 (((i:Nat):Int)+1) then
 some (.inl (in1,out++[(nth s.All i).To],i+1))
 else none
 else none
 else
 bif inK .i64 (((i:Nat):Int)+1) then
 some (.inl (in1,out,i+1))
 else none
 else none
 else
 some (.inr (in1,out))
theorem Tj (s:Shape) (v:Int):∀σ:List Int×List Int×Nat,aJ Tryz.prog (nav [1,0,1,0,0] (ah Tryz.f61)) (fun (σ:List Int×List Int×Nat)=>zO s v σ.1 σ.2.1 σ.2.2) (fun (_:List Int×List Int)=>(.exit 0)) (fun (y:List Int×List Int)=>zL s v y.1 y.2) σ (IW s v σ.1 σ.2.1 σ.2.2)
 | ([],[],i)=>aB 1010 (.br 100000012 (.op 30000 (.el Pair.D s.All (.up i)) (.br 100000018 (.op 50008 (.ap (cI .i64) [] [(nth s.All i).From] 1 fun _=>⟨rfl,rfl⟩) (.br 100000027 (.op 70008 (.ap (cI .i64) [] [(nth s.All i).To] 1 fun _=>⟨rfl,rfl⟩) (.ps 1000003 [.k [1,4,5,9,10,11] [1012,1014],.m 1012 100001,.m 1014 100002] (.ret (.inl ([(nth s.All i).From],[(nth s.All i).To],i+1))))) (.ps 1000003 [.k [1,4,5,9,10,11] [1012,100002],.m 1012 100001] (.ret (.inl ([(nth s.All i).From],[],i+1)))))) (.br 100000027 (.op 70008 (.ap (cI .i64) [] [(nth s.All i).To] 1 fun _=>⟨rfl,rfl⟩) (.ps 1000003 [.k [1,4,5,9,10,11] [100001,1012],.m 1012 100002] (.ret (.inl ([],[(nth s.All i).To],i+1))))) (.ps 1000003 [.k [1,4,5,9,10,11] [100001,100002]] (.ret (.inl ([],[],i+1))))))) (.ps 1000003 [.k [4,5] [100001,100002]] (.ret (.inr ([],[]))))) (by kernel_rfl)
 | ([],dK::dM,i)=>aB 1010 (.br 100000012 (.op 30000 (.el Pair.D s.All (.up i)) (.br 100000018 (.op 50008 (.ap (cI .i64) [] [(nth s.All i).From] 1 fun _=>⟨rfl,rfl⟩) (.br 100000027 (.op 70008 (.ap (cI .i64) (dK::dM) [(nth s.All i).To] 1 fun _=>⟨rfl,rfl⟩) (.ps 1000003 [.k [1,4,5,9,10,11] [1012,1014],.m 1012 100001,.m 1014 100002] (.ret (.inl ([(nth s.All i).From],(dK::dM)++[(nth s.All i).To],i+1))))) (.ps 1000003 [.k [1,4,5,9,10,11] [1012,100002],.m 1012 100001] (.ret (.inl ([(nth s.All i).From],(dK::dM),i+1)))))) (.br 100000027 (.op 70008 (.ap (cI .i64) (dK::dM) [(nth s.All i).To] 1 fun _=>⟨rfl,rfl⟩) (.ps 1000003 [.k [1,4,5,9,10,11] [100001,1012],.m 1012 100002] (.ret (.inl ([],(dK::dM)++[(nth s.All i).To],i+1))))) (.ps 1000003 [.k [1,4,5,9,10,11] [100001,100002]] (.ret (.inl ([],(dK::dM),i+1))))))) (.ps 1000003 [.k [4,5] [100001,100002]] (.ret (.inr ([],(dK::dM)))))) (by kernel_rfl)
 | (Gj::GI,[],i)=>aB 1010 (.br 100000012 (.op 30000 (.el Pair.D s.All (.up i)) (.br 100000018 (.op 50008 (.ap (cI .i64) (Gj::GI) [(nth s.All i).From] 1 fun _=>⟨rfl,rfl⟩) (.br 100000027 (.op 70008 (.ap (cI .i64) [] [(nth s.All i).To] 1 fun _=>⟨rfl,rfl⟩) (.ps 1000003 [.k [1,4,5,9,10,11] [1012,1014],.m 1012 100001,.m 1014 100002] (.ret (.inl ((Gj::GI)++[(nth s.All i).From],[(nth s.All i).To],i+1))))) (.ps 1000003 [.k [1,4,5,9,10,11] [1012,100002],.m 1012 100001] (.ret (.inl ((Gj::GI)++[(nth s.All i).From],[],i+1)))))) (.br 100000027 (.op 70008 (.ap (cI .i64) [] [(nth s.All i).To] 1 fun _=>⟨rfl,rfl⟩) (.ps 1000003 [.k [1,4,5,9,10,11] [100001,1012],.m 1012 100002] (.ret (.inl ((Gj::GI),[(nth s.All i).To],i+1))))) (.ps 1000003 [.k [1,4,5,9,10,11] [100001,100002]] (.ret (.inl ((Gj::GI),[],i+1))))))) (.ps 1000003 [.k [4,5] [100001,100002]] (.ret (.inr ((Gj::GI),[]))))) (by kernel_rfl)
 | (Gj::GI,dK::dM,i)=>aB 1010 (.br 100000012 (.op 30000 (.el Pair.D s.All (.up i)) (.br 100000018 (.op 50008 (.ap (cI .i64) (Gj::GI) [(nth s.All i).From] 1 fun _=>⟨rfl,rfl⟩) (.br 100000027 (.op 70008 (.ap (cI .i64) (dK::dM) [(nth s.All i).To] 1 fun _=>⟨rfl,rfl⟩) (.ps 1000003 [.k [1,4,5,9,10,11] [1012,1014],.m 1012 100001,.m 1014 100002] (.ret (.inl ((Gj::GI)++[(nth s.All i).From],(dK::dM)++[(nth s.All i).To],i+1))))) (.ps 1000003 [.k [1,4,5,9,10,11] [1012,100002],.m 1012 100001] (.ret (.inl ((Gj::GI)++[(nth s.All i).From],(dK::dM),i+1)))))) (.br 100000027 (.op 70008 (.ap (cI .i64) (dK::dM) [(nth s.All i).To] 1 fun _=>⟨rfl,rfl⟩) (.ps 1000003 [.k [1,4,5,9,10,11] [100001,1012],.m 1012 100002] (.ret (.inl ((Gj::GI),(dK::dM)++[(nth s.All i).To],i+1))))) (.ps 1000003 [.k [1,4,5,9,10,11] [100001,100002]] (.ret (.inl ((Gj::GI),(dK::dM),i+1))))))) (.ps 1000003 [.k [4,5] [100001,100002]] (.ret (.inr ((Gj::GI),(dK::dM)))))) (by kernel_rfl)
def OJ (s:Shape) (v:Int) (in1:List Int) (out:List Int) (i:Nat):Option (List Int×List Int):=aK (fun (σ:List Int×List Int×Nat)=>IW s v σ.1 σ.2.1 σ.2.2) FU (in1,out,i)
theorem TP (s:Shape) (v:Int) (in1:List Int) (out:List Int) (i:Nat):∀y:List Int×List Int,OJ s v in1 out i=some y→Runs Tryz.prog (.loop (nav [1,0,1,0,0] (ah Tryz.f61))) (zO s v in1 out i) ((.exit 0)) ((fun (y:List Int×List Int)=>zL s v y.1 y.2) y):=
 aU (head:=fun (σ:List Int×List Int×Nat)=>zO s v σ.1 σ.2.1 σ.2.2) (eo:=fun (_:List Int×List Int)=>(.exit 0)) (so:=fun (y:List Int×List Int)=>zL s v y.1 y.2) (Tj s v) (fun _ h=>by cases h) FU (in1,out,i)
def HY (s:Shape) (v:Int):Option (List Int×List Int):=
 (OJ s v [] [] 0).bind fun x0=>
 some (x0.1,x0.2)
theorem Fv (s:Shape) (v:Int):∀r,HY s v=some r→aj Tryz.prog 61 0 [AG Shape.D s,I v] [] (.tup [SL (cI .i64) r.1,SL (cI .i64) r.2]) []:=
 ak (enc:=fun r=>.tup [SL (cI .i64) r.1,SL (cI .i64) r.2]) (aP:=fun r=>[]) 10 (.op 10004 (.ln Pair.D s.All) (.ps 1000001 [.k [1,4,5,9,10,11] [100001,100002]] (.lp1 0 (TP s v [] [] 0) fun x0=>.oz 1 5 100002 1 (cI .i64) x0.2 (.oz 1 4 100001 1 (cI .i64) x0.1 (.ps 1 [.k [4,5] []] (.ret (x0.1,x0.2))))))) Tryz.func61 (by kernel_rfl) (by kernel_rfl) (by kernel_rfl)
def Vm (s:Shape) (v:Int):Option Int:=
 (je s).bind fun x0=>
 bif !x0 then
 some 0
 else
 (KW s v).bind fun x1=>
 bif !x1 then
 some 0
 else
 (HY s v).bind fun x2=>
 bif inK .i64 (((x2.1.length:Nat):Int)*((x2.2.length:Nat):Int)) then
 some (((x2.1.length:Nat):Int)*((x2.2.length:Nat):Int))
 else none
theorem Xk (s:Shape) (v:Int):∀r,Vm s v=some r→aj Tryz.prog 85 0 [AG Shape.D s,I v] [] (I r) []:=
 ak (enc:=fun r=>I r) (aP:=fun r=>[]) 10 (.call [] [] (jV s) .no fun x0=>.br 10008 (.ret 0) (.call [] [] (Ho s v) .no fun x1=>.br 100000015 (.ret 0) (.call [] [] (Fv s v) .no fun x2=>.op 40002 (.ln (cI .i64) x2.1) (.op 40006 (.ln (cI .i64) x2.2) (.ret (((x2.1.length:Nat):Int)*((x2.2.length:Nat):Int))))))) Tryz.func85 (by kernel_rfl) (by kernel_rfl) (by kernel_rfl)
def Dp (o0:List (Nat→Int)) (bi:Nat) (v:Int):Option (List (Nat→Int)):=
 bif decide (0≤v) then
 bif decide (v≤9223372036854775807) then
 bif decide (0≤v/64) then
 bif decide ((v/64).toNat<8) then
 bif decide (bi<o0.length) then
 bif decide ((v/64).toNat<8) then
 bif decide (0≤v) then
 bif decide (0≤v%64) then
 bif decide (0≤v/64) then
 bif decide ((v/64).toNat<8) then
 bif decide (bi<o0.length) then
 bif decide ((v/64).toNat<8) then
 some (o0.set bi (abD (nth o0 bi) ((v/64).toNat) (Uh .u64 ((nth o0 bi) ((v/64).toNat)) (Gq .u64 1 (v%64)))))
 else none
 else none
 else none
 else none
 else none
 else none
 else none
 else none
 else none
 else none
 else none
 else none
theorem EI (o0:List (Nat→Int)) (bi:Nat) (v:Int):∀r,Dp o0 bi v=some r→aj Tryz.prog 64 1 [.ptr 0 bi 0,I v] [(0,ROW 8 (jc .u64 8) o0 0)] (.tup []) [(0,ROW 8 (jc .u64 8) r 0)]:=
 ak (enc:=fun r=>.tup []) (aP:=fun r=>[(0,ROW 8 (jc .u64 8) r 0)]) 10 (.op 8 (.ix .dn) (.op 10 (.ra .u64 8 o0 ((v/64).toNat)) (.op 22 (.ix .dn) (.op 24 (.sa .u64 8 o0 ((v/64).toNat) (Uh .u64 ((nth o0 bi) ((v/64).toNat)) (Gq .u64 1 (v%64)))) (.ret (o0.set bi (abD (nth o0 bi) ((v/64).toNat) (Uh .u64 ((nth o0 bi) ((v/64).toNat)) (Gq .u64 1 (v%64)))))))))) Tryz.func64 (by kernel_rfl) (by kernel_rfl) (by kernel_rfl)
def AU (s:Shape) (x0:Int) (i:Nat) (out:List (Nat→Int)):St:=⟨25,0,[(3,.msl 11 0 none (some x0.toNat)),(10,SL Pair.D s.All),(11,I ((s.All.length:Nat):Int)),(12,I ((i:Nat):Int))],[(11,ROW 8 (jc .u64 8) out 0)]⟩
def zM (s:Shape) (x0:Int) (out:List (Nat→Int)):St:=⟨25,0,[(3,.msl 11 0 none (some x0.toNat))],[(11,ROW 8 (jc .u64 8) out 0)]⟩
def I4 (s:Shape) (x0:Int) (i:Nat) (out:List (Nat→Int)):Option ((Nat×(List (Nat→Int)))⊕(List (Nat→Int))):=
 bif decide (((i:Nat):Int)<((s.All.length:Nat):Int)) then
 bif decide (i<s.All.length) then
 bif decide (0≤(nth s.All i).From) then
 bif decide (((nth s.All i).From).toNat<out.length) then
 (Dp out (((nth s.All i).From).toNat) ((nth s.All i).To)).bind fun x1=>
 bif inK .i64 (((i:Nat):Int)+1) then
 some (.inl (i+1,x1))
 else none
 else none
 else none
 else none
 else
 some (.inr out)
theorem TN (s:Shape) (x0:Int):∀σ:Nat×(List (Nat→Int)),aJ Tryz.prog (nav [1,1,0,1,0,0] (ah Tryz.f62)) (fun (σ:Nat×(List (Nat→Int)))=>AU s x0 σ.1 σ.2) (fun (_:(List (Nat→Int)))=>(.exit 0)) (fun (y:(List (Nat→Int)))=>zM s x0 y) σ (I4 s x0 σ.1 σ.2)
 | (i,out)=>aB 1010 (.br 100000013 (.op 40000 (.el Pair.D s.All (.up i)) (.op 50006 (.el (jc .u64 8) out .dn) (.call [11] [] (EI out (((nth s.All i).From).toNat) ((nth s.All i).To)) .no fun x1=>.ps 1000003 [.k [3,10,11,12] [11]] (.ret (.inl (i+1,x1)))))) (.ps 1000003 [.k [3] [11]] (.ret (.inr out)))) (by kernel_rfl)
def G7 (s:Shape) (x0:Int) (i:Nat) (out:List (Nat→Int)):Option (List (Nat→Int)):=aK (fun (σ:Nat×(List (Nat→Int)))=>I4 s x0 σ.1 σ.2) FU (i,out)
theorem IK (s:Shape) (x0:Int) (i:Nat) (out:List (Nat→Int)):∀y:(List (Nat→Int)),G7 s x0 i out=some y→Runs Tryz.prog (.loop (nav [1,1,0,1,0,0] (ah Tryz.f62))) (AU s x0 i out) ((.exit 0)) ((fun (y:(List (Nat→Int)))=>zM s x0 y) y):=
 aU (head:=fun (σ:Nat×(List (Nat→Int)))=>AU s x0 σ.1 σ.2) (eo:=fun (_:(List (Nat→Int)))=>(.exit 0)) (so:=fun (y:(List (Nat→Int)))=>zM s x0 y) (TN s x0) (fun _ h=>by cases h) FU (i,out)
def WL (s:Shape):Option (List (Nat→Int)):=
 (CU s).bind fun x0=>
 bif decide (0≤x0) then
 bif decide (x0.toNat≤2147483648) then
 (G7 s x0 0 (List.replicate x0.toNat (fun _=>0))).bind fun x1=>
 some x1
 else none
 else none
theorem Xo (s:Shape):∀r,WL s=some r→aj Tryz.prog 62 0 [AG Shape.D s] [] (SL (jc .u64 8) r) []:=
 ak (enc:=fun r=>SL (jc .u64 8) r) (aP:=fun r=>[]) 10 (.call [] [] (FB s) .no fun x0=>.op 10004 (.mk (jc .u64 8) (fun _=>0) .dn) (.op 20004 (.ln Pair.D s.All) (.ps 1000001 [.k [3,10,11,12] [11]] (.lp1 0 (IK s x0 0 (List.replicate x0.toNat (fun _=>0))) fun x1=>.ps 1000003 [.z 2] (.ret x1))))) Tryz.func62 (by kernel_rfl) (by kernel_rfl) (by kernel_rfl)
def OZ (s:Shape):Option (List (Nat→Int)):=
 (CU s).bind fun x0=>
 bif decide (0≤x0) then
 bif decide (x0.toNat≤2147483648) then
 (G7 s x0 0 (List.replicate x0.toNat (fun _=>0))).bind fun x1=>
 some x1
 else none
 else none
theorem Tf (s:Shape):∀r,OZ s=some r→aj Tryz.prog 62 0 [AG Shape.D s] [] (.msl 0 0 none none) [(0,ROW 8 (jc .u64 8) r 0)]:=
 ak (enc:=fun r=>.msl 0 0 none none) (aP:=fun r=>[(0,ROW 8 (jc .u64 8) r 0)]) 10 (.call [] [] (FB s) .no fun x0=>.op 10004 (.mk (jc .u64 8) (fun _=>0) .dn) (.op 20004 (.ln Pair.D s.All) (.ps 1000001 [.k [3,10,11,12] [11]] (.lp1 0 (IK s x0 0 (List.replicate x0.toNat (fun _=>0))) fun x1=>.wc 1000003 2 (.ps 1000003 [.k [2] [11],.m 11 0] (.ret x1)))))) Tryz.func62 (by kernel_rfl) (by kernel_rfl) (by kernel_rfl)
def IY (o0:List (Nat→Int)) (bi:Nat) (v:Int):Option (List (Nat→Int)):=
 bif decide (0≤v) then
 bif decide (v≤9223372036854775807) then
 bif decide (0≤v/64) then
 bif decide ((v/64).toNat<8) then
 bif decide (bi<o0.length) then
 bif decide ((v/64).toNat<8) then
 bif decide (0≤v) then
 bif decide (0≤v%64) then
 bif decide (0≤v/64) then
 bif decide ((v/64).toNat<8) then
 bif decide (bi<o0.length) then
 bif decide ((v/64).toNat<8) then
 some (o0.set bi (abD (nth o0 bi) ((v/64).toNat) (YP .u64 ((nth o0 bi) ((v/64).toNat)) (Gq .u64 1 (v%64)))))
 else none
 else none
 else none
 else none
 else none
 else none
 else none
 else none
 else none
 else none
 else none
 else none
theorem NG (o0:List (Nat→Int)) (bi:Nat) (v:Int):∀r,IY o0 bi v=some r→aj Tryz.prog 63 1 [.ptr 0 bi 0,I v] [(0,ROW 8 (jc .u64 8) o0 0)] (.tup []) [(0,ROW 8 (jc .u64 8) r 0)]:=
 ak (enc:=fun r=>.tup []) (aP:=fun r=>[(0,ROW 8 (jc .u64 8) r 0)]) 10 (.op 8 (.ix .dn) (.op 10 (.ra .u64 8 o0 ((v/64).toNat)) (.op 22 (.ix .dn) (.op 24 (.sa .u64 8 o0 ((v/64).toNat) (YP .u64 ((nth o0 bi) ((v/64).toNat)) (Gq .u64 1 (v%64)))) (.ret (o0.set bi (abD (nth o0 bi) ((v/64).toNat) (YP .u64 ((nth o0 bi) ((v/64).toNat)) (Gq .u64 1 (v%64)))))))))) Tryz.func63 (by kernel_rfl) (by kernel_rfl) (by kernel_rfl)
def vk (tA:Shape) (a:Int) (x2:List Int×List Int) (i:Nat) (i1:Nat) (o1:List (Nat→Int)):St:=⟨102,0,[(1,I a),(2,.ptr 10 0 0),(4,.ptr 11 0 0),(7,SL (cI .i64) x2.1),(8,SL (cI .i64) x2.2),(9,.msl 100003 0 none none),(11,I (nth x2.1 i)),(36,SL (cI .i64) x2.1),(37,I ((x2.1.length:Nat):Int)),(38,I ((i:Nat):Int)),(47,SL (cI .i64) x2.2),(48,I ((x2.2.length:Nat):Int)),(49,I ((i1:Nat):Int))],[(10,BOX [I tA.Ins,I tA.bJ,I tA.aH,SL Pair.D tA.All]),(11,BOX [I 0,I 0,I 0,gq]),(100003,ROW 8 (jc .u64 8) o1 0)]⟩
def vw (tA:Shape) (a:Int) (x2:List Int×List Int) (i:Nat) (o1:List (Nat→Int)):St:=⟨102,0,[(1,I a),(2,.ptr 10 0 0),(4,.ptr 11 0 0),(7,SL (cI .i64) x2.1),(8,SL (cI .i64) x2.2),(9,.msl 100003 0 none none),(36,SL (cI .i64) x2.1),(37,I ((x2.1.length:Nat):Int)),(38,I ((i:Nat):Int))],[(10,BOX [I tA.Ins,I tA.bJ,I tA.aH,SL Pair.D tA.All]),(11,BOX [I 0,I 0,I 0,gq]),(100003,ROW 8 (jc .u64 8) o1 0)]⟩
def E8 (tA:Shape) (a:Int) (x2:List Int×List Int) (i:Nat) (i1:Nat) (o1:List (Nat→Int)):Option ((Nat×(List (Nat→Int)))⊕(List (Nat→Int))):=
 bif decide (((i1:Nat):Int)<((x2.2.length:Nat):Int)) then
 bif decide (i1<x2.2.length) then
 bif decide (0≤nth x2.1 i) then
 bif decide ((nth x2.1 i).toNat<o1.length) then
 (Dp o1 ((nth x2.1 i).toNat) (nth x2.2 i1)).bind fun x5=>
 bif inK .i64 (((i1:Nat):Int)+1) then
 some (.inl (i1+1,x5))
 else none
 else none
 else none
 else none
 else
 some (.inr o1)
theorem Oa (tA:Shape) (a:Int) (x2:List Int×List Int) (i:Nat):∀σ:Nat×(List (Nat→Int)),aJ Tryz.prog (nav [1,1,1,1,0,1,0,0,1,1,0,0,1,1,1,0,0] (ah Tryz.f25)) (fun (σ:Nat×(List (Nat→Int)))=>vk tA a x2 i σ.1 σ.2) (fun (_:(List (Nat→Int)))=>(.exit 3)) (fun (y:(List (Nat→Int)))=>vw tA a x2 i y) σ (E8 tA a x2 i σ.1 σ.2)
 | (i1,o1)=>aB 2010 (.br 100000050 (.op 130000 (.el (cI .i64) x2.2 (.up i1)) (.op 140004 (.el (jc .u64 8) o1 .dn) (.call [100003] [] (EI o1 ((nth x2.1 i).toNat) (nth x2.2 i1)) .no fun x5=>.ps 1000003 [.k [1,2,4,7,8,9,11,36,37,38,47,48,49] [10,11,100003]] (.ret (.inl (i1+1,x5)))))) (.ps 1000003 [.k [1,2,4,7,8,9,36,37,38] [10,11,100003]] (.ret (.inr o1)))) (by kernel_rfl)
def Jb (tA:Shape) (a:Int) (x2:List Int×List Int) (i:Nat) (i1:Nat) (o1:List (Nat→Int)):Option (List (Nat→Int)):=aK (fun (σ:Nat×(List (Nat→Int)))=>E8 tA a x2 i σ.1 σ.2) FU (i1,o1)
theorem OV (tA:Shape) (a:Int) (x2:List Int×List Int) (i:Nat) (i1:Nat) (o1:List (Nat→Int)):∀y:(List (Nat→Int)),Jb tA a x2 i i1 o1=some y→Runs Tryz.prog (.loop (nav [1,1,1,1,0,1,0,0,1,1,0,0,1,1,1,0,0] (ah Tryz.f25))) (vk tA a x2 i i1 o1) ((.exit 3)) ((fun (y:(List (Nat→Int)))=>vw tA a x2 i y) y):=
 aU (head:=fun (σ:Nat×(List (Nat→Int)))=>vk tA a x2 i σ.1 σ.2) (eo:=fun (_:(List (Nat→Int)))=>(.exit 3)) (so:=fun (y:(List (Nat→Int)))=>vw tA a x2 i y) (Oa tA a x2 i) (fun _ h=>by cases h) FU (i1,o1)
def zZ (tA:Shape) (a:Int) (x2:List Int×List Int) (i:Nat) (o:List (Nat→Int)):St:=⟨102,0,[(1,I a),(2,.ptr 10 0 0),(4,.ptr 11 0 0),(7,SL (cI .i64) x2.1),(8,SL (cI .i64) x2.2),(9,.msl 100003 0 none none),(36,SL (cI .i64) x2.1),(37,I ((x2.1.length:Nat):Int)),(38,I ((i:Nat):Int))],[(10,BOX [I tA.Ins,I tA.bJ,I tA.aH,SL Pair.D tA.All]),(11,BOX [I 0,I 0,I 0,gq]),(100003,ROW 8 (jc .u64 8) o 0)]⟩
def Af (tA:Shape) (a:Int) (x2:List Int×List Int) (o:List (Nat→Int)):St:=⟨102,0,[(1,I a),(2,.ptr 10 0 0),(4,.ptr 11 0 0),(7,SL (cI .i64) x2.1),(8,SL (cI .i64) x2.2),(9,.msl 100003 0 none none)],[(10,BOX [I tA.Ins,I tA.bJ,I tA.aH,SL Pair.D tA.All]),(11,BOX [I 0,I 0,I 0,gq]),(100003,ROW 8 (jc .u64 8) o 0)]⟩
def IQ (tA:Shape) (a:Int) (x2:List Int×List Int) (i:Nat) (o:List (Nat→Int)):Option ((Nat×(List (Nat→Int)))⊕(List (Nat→Int))):=
 bif decide (((i:Nat):Int)<((x2.1.length:Nat):Int)) then
 bif decide (i<x2.1.length) then
 bif decide (0≤nth x2.1 i) then
 bif decide ((nth x2.1 i).toNat<o.length) then
 (IY o ((nth x2.1 i).toNat) a).bind fun x4=>
 (Jb tA a x2 i 0 x4).bind fun x5=>
 bif inK .i64 (((i:Nat):Int)+1) then
 some (.inl (i+1,x5))
 else none
 else none
 else none
 else none
 else
 some (.inr o)
theorem SS (tA:Shape) (a:Int) (x2:List Int×List Int):∀σ:Nat×(List (Nat→Int)),aJ Tryz.prog (nav [1,1,1,1,0,1,0,0] (ah Tryz.f25)) (fun (σ:Nat×(List (Nat→Int)))=>zZ tA a x2 σ.1 σ.2) (fun (_:(List (Nat→Int)))=>(.exit 1)) (fun (y:(List (Nat→Int)))=>Af tA a x2 y) σ (IQ tA a x2 σ.1 σ.2)
 | (i,o)=>aB 1010 (.br 100000039 (.op 90000 (.el (cI .i64) x2.1 (.up i)) (.op 100004 (.el (jc .u64 8) o .dn) (.call [100003] [] (NG o ((nth x2.1 i).toNat) a) .no fun x4=>.op 110002 (.ln (cI .i64) x2.2) (.ps 1000001 [.k [1,2,4,7,8,9,11,36,37,38,47,48,49] [10,11,100003]] (.lp1 0 (OV tA a x2 i 0 x4) fun x5=>.ps 1000003 [.k [1,2,4,7,8,9,36,37,38] [10,11,100003]] (.ret (.inl (i+1,x5)))))))) (.ps 1000003 [.k [1,2,4,7,8,9] [10,11,100003]] (.ret (.inr o)))) (by kernel_rfl)
def Py (tA:Shape) (a:Int) (x2:List Int×List Int) (i:Nat) (o:List (Nat→Int)):Option (List (Nat→Int)):=aK (fun (σ:Nat×(List (Nat→Int)))=>IQ tA a x2 σ.1 σ.2) FU (i,o)
theorem SI (tA:Shape) (a:Int) (x2:List Int×List Int) (i:Nat) (o:List (Nat→Int)):∀y:(List (Nat→Int)),Py tA a x2 i o=some y→Runs Tryz.prog (.loop (nav [1,1,1,1,0,1,0,0] (ah Tryz.f25))) (zZ tA a x2 i o) ((.exit 1)) ((fun (y:(List (Nat→Int)))=>Af tA a x2 y) y):=
 aU (head:=fun (σ:Nat×(List (Nat→Int)))=>zZ tA a x2 σ.1 σ.2) (eo:=fun (_:(List (Nat→Int)))=>(.exit 1)) (so:=fun (y:(List (Nat→Int)))=>Af tA a x2 y) (SS tA a x2) (fun _ h=>by cases h) FU (i,o)
def JL (o0:List (Nat→Int)) (bi:Nat) (v:Int):Option Bool:=
 bif decide (0≤v) then
 bif decide (v≤9223372036854775807) then
 bif decide (0≤v/64) then
 bif decide ((v/64).toNat<8) then
 bif decide (bi<o0.length) then
 bif decide ((v/64).toNat<8) then
 bif decide (0≤v) then
 bif decide (0≤v%64) then
 some ((abC .u64 (bn .u64 ((nth o0 bi) ((v/64).toNat)) (v%64)) 1)==1)
 else none
 else none
 else none
 else none
 else none
 else none
 else none
 else none
theorem EY (o0:List (Nat→Int)) (bi:Nat) (v:Int):∀r,JL o0 bi v=some r→aj Tryz.prog 65 1 [.ptr 0 bi 0,I v] [(0,ROW 8 (jc .u64 8) o0 0)] (B r) [(0,ROW 8 (jc .u64 8) o0 0)]:=
 ak (enc:=fun r=>B r) (aP:=fun r=>[(0,ROW 8 (jc .u64 8) o0 0)]) 10 (.op 10008 (.ix .dn) (.op 10010 (.ra .u64 8 o0 ((v/64).toNat)) (.ret ((abC .u64 (bn .u64 ((nth o0 bi) ((v/64).toNat)) (v%64)) 1)==1)))) Tryz.func65 (by kernel_rfl) (by kernel_rfl) (by kernel_rfl)
def uX (tA:Shape) (a:Int) (x2:List Int×List Int) (x4:(List (Nat→Int))) (i:Nat) (o1:List (Nat→Int)) (i1:Nat) (o2:List Pair):St:=⟨102,0,[(4,.ptr 11 0 0),(7,SL (cI .i64) x2.1),(8,SL (cI .i64) x2.2),(9,.msl 100003 0 none none),(14,.ptr 12 0 0),(15,I ((i:Nat):Int)),(72,I (((x4.set a.toNat (fun _=>0)).length:Nat):Int)),(73,I ((i:Nat):Int)),(77,I ((o1.length:Nat):Int)),(78,I ((i1:Nat):Int))],[(11,BOX [I 0,I 0,I 0,gq]),(12,BOX [I tA.Ins,I tA.bJ,I tA.aH,bZ 100005 o2]),(100003,ROW 8 (jc .u64 8) o1 0),(100005,dG 2 Pair.D o2)]⟩
def vW (tA:Shape) (a:Int) (x2:List Int×List Int) (x4:(List (Nat→Int))) (i:Nat) (o1:List (Nat→Int)) (o2:List Pair):St:=⟨102,0,[(4,.ptr 11 0 0),(7,SL (cI .i64) x2.1),(8,SL (cI .i64) x2.2),(9,.msl 100003 0 none none),(14,.ptr 12 0 0),(72,I (((x4.set a.toNat (fun _=>0)).length:Nat):Int)),(73,I ((i:Nat):Int))],[(11,BOX [I 0,I 0,I 0,gq]),(12,BOX [I tA.Ins,I tA.bJ,I tA.aH,bZ 100005 o2]),(100003,ROW 8 (jc .u64 8) o1 0),(100005,dG 2 Pair.D o2)]⟩
def EZ (tA:Shape) (a:Int) (x2:List Int×List Int) (x4:(List (Nat→Int))) (i:Nat) (o1:List (Nat→Int)) (i1:Nat) (o2:List Pair):Option ((Nat×List Pair)⊕(List Pair)):=
 bif decide (((i1:Nat):Int)<((o1.length:Nat):Int)) then
 bif decide (i<o1.length) then
 (JL o1 i ((i1:Nat):Int)).bind fun x5=>
 bif x5 then
 bif decide (o2.length+1≤2147483648) then
 bif inK .i64 (((i1:Nat):Int)+1) then
 some (.inl (i1+1,o2++[Pair.mk ((i:Nat):Int) ((i1:Nat):Int)]))
 else none
 else none
 else
 bif inK .i64 (((i1:Nat):Int)+1) then
 some (.inl (i1+1,o2))
 else none
 else none
 else
 some (.inr o2)
theorem Oh (tA:Shape) (a:Int) (x2:List Int×List Int) (x4:(List (Nat→Int))) (i:Nat) (o1:List (Nat→Int)):∀σ:Nat×List Pair,aJ Tryz.prog (nav [1,1,1,1,1,1,1,0,1,0,0,1,1,0,0,1,1,0,0] (ah Tryz.f25)) (fun (σ:Nat×List Pair)=>uX tA a x2 x4 i o1 σ.1 σ.2) (fun (_:List Pair)=>(.exit 7)) (fun (y:List Pair)=>vW tA a x2 x4 i o1 y) σ (EZ tA a x2 x4 i o1 σ.1 σ.2)
 | (i1,[])=>aB 2010 (.br 100000079 (.op 250004 (.el (jc .u64 8) o1 (.up i)) (.call [100003] [] (EY o1 i ((i1:Nat):Int)) .no fun x5=>.br 100000085 (.op 260012 (.ap Pair.D [] [Pair.mk ((i:Nat):Int) ((i1:Nat):Int)] 2 fun _=>⟨rfl,rfl⟩) (.ps 1000003 [.k [4,7,8,9,14,15,72,73,77,78] [11,12,100003,2011],.m 2011 100005] (.ret (.inl (i1+1,[Pair.mk ((i:Nat):Int) ((i1:Nat):Int)]))))) (.ps 1000003 [.k [4,7,8,9,14,15,72,73,77,78] [11,12,100003,100005]] (.ret (.inl (i1+1,[])))))) (.ps 1000003 [.k [4,7,8,9,14,72,73] [11,12,100003,100005]] (.ret (.inr [])))) (by kernel_rfl)
 | (i1,afA::afJ)=>aB 2010 (.br 100000079 (.op 250004 (.el (jc .u64 8) o1 (.up i)) (.call [100003] [] (EY o1 i ((i1:Nat):Int)) .no fun x5=>.br 100000085 (.op 260012 (.ap Pair.D (afA::afJ) [Pair.mk ((i:Nat):Int) ((i1:Nat):Int)] 2 fun _=>⟨rfl,rfl⟩) (.ps 1000003 [.k [4,7,8,9,14,15,72,73,77,78] [11,12,100003,2011],.m 2011 100005] (.ret (.inl (i1+1,(afA::afJ)++[Pair.mk ((i:Nat):Int) ((i1:Nat):Int)]))))) (.ps 1000003 [.k [4,7,8,9,14,15,72,73,77,78] [11,12,100003,100005]] (.ret (.inl (i1+1,(afA::afJ))))))) (.ps 1000003 [.k [4,7,8,9,14,72,73] [11,12,100003,100005]] (.ret (.inr (afA::afJ))))) (by kernel_rfl)
def JB (tA:Shape) (a:Int) (x2:List Int×List Int) (x4:(List (Nat→Int))) (i:Nat) (o1:List (Nat→Int)) (i1:Nat) (o2:List Pair):Option (List Pair):=aK (fun (σ:Nat×List Pair)=>EZ tA a x2 x4 i o1 σ.1 σ.2) FU (i1,o2)
theorem Ez (tA:Shape) (a:Int) (x2:List Int×List Int) (x4:(List (Nat→Int))) (i:Nat) (o1:List (Nat→Int)) (i1:Nat) (o2:List Pair):∀y:List Pair,JB tA a x2 x4 i o1 i1 o2=some y→Runs Tryz.prog (.loop (nav [1,1,1,1,1,1,1,0,1,0,0,1,1,0,0,1,1,0,0] (ah Tryz.f25))) (uX tA a x2 x4 i o1 i1 o2) ((.exit 7)) ((fun (y:List Pair)=>vW tA a x2 x4 i o1 y) y):=
 aU (head:=fun (σ:Nat×List Pair)=>uX tA a x2 x4 i o1 σ.1 σ.2) (eo:=fun (_:List Pair)=>(.exit 7)) (so:=fun (y:List Pair)=>vW tA a x2 x4 i o1 y) (Oh tA a x2 x4 i o1) (fun _ h=>by cases h) FU (i1,o2)
def wG (tA:Shape) (a:Int) (x2:List Int×List Int) (x4:(List (Nat→Int))) (i:Nat) (o:List Pair) (o1:List (Nat→Int)):St:=⟨102,0,[(4,.ptr 11 0 0),(7,SL (cI .i64) x2.1),(8,SL (cI .i64) x2.2),(9,.msl 100003 0 none none),(14,.ptr 12 0 0),(72,I (((x4.set a.toNat (fun _=>0)).length:Nat):Int)),(73,I ((i:Nat):Int))],[(11,BOX [I 0,I 0,I 0,gq]),(12,BOX [I tA.Ins,I tA.bJ,I tA.aH,bZ 100005 o]),(100003,ROW 8 (jc .u64 8) o1 0),(100005,dG 2 Pair.D o)]⟩
def uQ (tA:Shape) (a:Int) (x2:List Int×List Int) (x4:(List (Nat→Int))) (o:List Pair):St:=⟨102,0,[(4,.ptr 11 0 0),(7,SL (cI .i64) x2.1),(8,SL (cI .i64) x2.2),(14,.ptr 12 0 0)],[(11,BOX [I 0,I 0,I 0,gq]),(12,BOX [I tA.Ins,I tA.bJ,I tA.aH,bZ 100005 o]),(100005,dG 2 Pair.D o)]⟩
def EJ (tA:Shape) (a:Int) (x2:List Int×List Int) (x4:(List (Nat→Int))) (i:Nat) (o:List Pair) (o1:List (Nat→Int)):Option ((Nat×List Pair×(List (Nat→Int)))⊕(List Pair)):=
 bif decide (((i:Nat):Int)<(((x4.set a.toNat (fun _=>0)).length:Nat):Int)) then
 (JB tA a x2 x4 i o1 0 o).bind fun x5=>
 bif inK .i64 (((i:Nat):Int)+1) then
 some (.inl (i+1,x5,o1))
 else none
 else
 some (.inr o)
theorem N8 (tA:Shape) (a:Int) (x2:List Int×List Int) (x4:(List (Nat→Int))):∀σ:Nat×List Pair×(List (Nat→Int)),aJ Tryz.prog (nav [1,1,1,1,1,1,1,0,1,0,0] (ah Tryz.f25)) (fun (σ:Nat×List Pair×(List (Nat→Int)))=>wG tA a x2 x4 σ.1 σ.2.1 σ.2.2) (fun (_:List Pair)=>(.exit 5)) (fun (y:List Pair)=>uQ tA a x2 x4 y) σ (EJ tA a x2 x4 σ.1 σ.2.1 σ.2.2)
 | (i,[],o1)=>aB 1010 (.br 100000074 (.op 220002 (.ln (jc .u64 8) o1) (.ps 1000001 [.k [4,7,8,9,14,15,72,73,77,78] [11,12,100003,100005]] (.lp1 0 (Ez tA a x2 x4 i o1 0 []) fun x5=>.ps 1000003 [.k [4,7,8,9,14,72,73] [11,12,100003,100005]] (.ret (.inl (i+1,x5,o1)))))) (.ps 1000003 [.k [4,7,8,14] [11,12,100005]] (.ret (.inr [])))) (by kernel_rfl)
 | (i,o_h::o_t,o1)=>aB 1010 (.br 100000074 (.op 220002 (.ln (jc .u64 8) o1) (.ps 1000001 [.k [4,7,8,9,14,15,72,73,77,78] [11,12,100003,100005]] (.lp1 0 (Ez tA a x2 x4 i o1 0 (o_h::o_t)) fun x5=>.ps 1000003 [.k [4,7,8,9,14,72,73] [11,12,100003,100005]] (.ret (.inl (i+1,x5,o1)))))) (.ps 1000003 [.k [4,7,8,14] [11,12,100005]] (.ret (.inr (o_h::o_t))))) (by kernel_rfl)
def J9 (tA:Shape) (a:Int) (x2:List Int×List Int) (x4:(List (Nat→Int))) (i:Nat) (o:List Pair) (o1:List (Nat→Int)):Option (List Pair):=aK (fun (σ:Nat×List Pair×(List (Nat→Int)))=>EJ tA a x2 x4 σ.1 σ.2.1 σ.2.2) FU (i,o,o1)
theorem OE (tA:Shape) (a:Int) (x2:List Int×List Int) (x4:(List (Nat→Int))) (i:Nat) (o:List Pair) (o1:List (Nat→Int)):∀y:List Pair,J9 tA a x2 x4 i o o1=some y→Runs Tryz.prog (.loop (nav [1,1,1,1,1,1,1,0,1,0,0] (ah Tryz.f25))) (wG tA a x2 x4 i o o1) ((.exit 5)) ((fun (y:List Pair)=>uQ tA a x2 x4 y) y):=
 aU (head:=fun (σ:Nat×List Pair×(List (Nat→Int)))=>wG tA a x2 x4 σ.1 σ.2.1 σ.2.2) (eo:=fun (_:List Pair)=>(.exit 5)) (so:=fun (y:List Pair)=>uQ tA a x2 x4 y) (N8 tA a x2 x4) (fun _ h=>by cases h) FU (i,o,o1)
def Nj (tA:Shape) (a:Int):Option (Shape×Int×Int):=
 (je tA).bind fun x0=>
 bif !x0 then
 some (Shape.mk 0 0 0 [],0,1)
 else
 (KW tA a).bind fun x1=>
 bif !x1 then
 some (Shape.mk 0 0 0 [],0,9)
 else
 (HY tA a).bind fun x2=>
 (OZ tA).bind fun x3=>
 (Py tA a x2 0 x3).bind fun x4=>
 bif decide (0≤a) then
 bif decide (a.toNat<x4.length) then
 bif decide (a.toNat<x4.length) then
 (J9 tA a x2 x4 0 [] (x4.set a.toNat (fun _=>0))).bind fun x5=>
 bif inK .i64 (((x2.1.length:Nat):Int)*((x2.2.length:Nat):Int)) then
 some (Shape.mk tA.Ins tA.bJ tA.aH x5,((x2.1.length:Nat):Int)*((x2.2.length:Nat):Int),0)
 else none
 else none
 else none
 else none
theorem MV (tA:Shape) (a:Int):∀r,Nj tA a=some r→aj Tryz.prog 25 0 [AG Shape.D tA,I a] [] (.tup [AG Shape.D r.1,I r.2.1,I r.2.2]) []:=
 ak (enc:=fun r=>.tup [AG Shape.D r.1,I r.2.1,I r.2.2]) (aP:=fun r=>[]) 10 (.call [] [] (jV tA) .no fun x0=>.br 100000017 (.ps 1000003 [.b 11] (.ret (Shape.mk 0 0 0 [],0,1))) (.call [] [] (Ho tA a) .no fun x1=>.br 100000022 (.ps 1000003 [.b 11] (.ret (Shape.mk 0 0 0 [],0,9))) (.call [] [] (Fv tA a) .no fun x2=>.call [] [100003] (Tf tA) .no fun x3=>.op 70002 (.ln (cI .i64) x2.1) (.ps 1000001 [.k [1,2,4,7,8,9,36,37,38] [10,11,100003]] (.lp1 0 (SI tA a x2 0 x3) fun x4=>.op 170006 (.el (jc .u64 8) x4 .dn) (.op 170008 (.st (jc .u64 8) x4 (fun _=>0)) (.op 190002 (.ln (jc .u64 8) (x4.set a.toNat (fun _=>0))) (.ps 1000001 [.k [4,7,8,9,14,72,73] [11,12,100003,100005]] (.lp1 0 (OE tA a x2 x4 0 [] (x4.set a.toNat (fun _=>0))) fun x5=>.ob 11 12 3 100005 2 Pair.D x5 (.ps 11 [.k [4,7,8,14] [11,12]] (.op 290004 (.ln (cI .i64) x2.1) (.op 290008 (.ln (cI .i64) x2.2) (.ret (Shape.mk tA.Ins tA.bJ tA.aH x5,((x2.1.length:Nat):Int)*((x2.2.length:Nat):Int),0)))))))))))))) Tryz.func25 (by kernel_rfl) (by kernel_rfl) (by kernel_rfl)
def Gg (b:Nat→Int) (v:Int):Option Bool:=
 bif decide (0≤v) then
 bif decide (v≤9223372036854775807) then
 bif decide (0≤v/64) then
 bif decide ((v/64).toNat<8) then
 bif decide ((v/64).toNat<8) then
 bif decide (0≤v) then
 bif decide (0≤v%64) then
 some ((abC .u64 (bn .u64 (b ((v/64).toNat)) (v%64)) 1)==1)
 else none
 else none
 else none
 else none
 else none
 else none
 else none
theorem LY (b:Nat→Int) (v:Int):∀r,Gg b v=some r→aj Tryz.prog 65 0 [.pp ((jc .u64 8) b) 0,I v] [] (B r) []:=
 ak (enc:=fun r=>B r) (aP:=fun r=>[]) 10 (.op 10008 (.ix .dn) (.op 10010 (.la .u64 8 b ((v/64).toNat)) (.ret ((abC .u64 (bn .u64 (b ((v/64).toNat)) (v%64)) 1)==1)))) Tryz.func65 (by kernel_rfl) (by kernel_rfl) (by kernel_rfl)
def vX (x2:List Int×List Int) (x3:(List (Nat→Int))) (i:Nat) (n1:Nat) (i1:Nat):St:=⟨53,0,[(6,SL (cI .i64) x2.2),(7,SL (jc .u64 8) x3),(8,I ((n1:Nat):Int)),(10,I (nth x2.1 i)),(30,SL (cI .i64) x2.1),(31,I ((x2.1.length:Nat):Int)),(32,I ((i:Nat):Int)),(36,SL (cI .i64) x2.2),(37,I ((x2.2.length:Nat):Int)),(38,I ((i1:Nat):Int))],[]⟩
def vY (x2:List Int×List Int) (x3:(List (Nat→Int))) (i:Nat) (n1:Nat):St:=⟨53,0,[(6,SL (cI .i64) x2.2),(7,SL (jc .u64 8) x3),(8,I ((n1:Nat):Int)),(30,SL (cI .i64) x2.1),(31,I ((x2.1.length:Nat):Int)),(32,I ((i:Nat):Int))],[]⟩
def EC (x2:List Int×List Int) (x3:(List (Nat→Int))) (i:Nat) (n1:Nat) (i1:Nat):Option ((Nat×Nat)⊕Nat):=
 bif decide (((i1:Nat):Int)<((x2.2.length:Nat):Int)) then
 bif decide (i1<x2.2.length) then
 bif decide (0≤nth x2.1 i) then
 bif decide ((nth x2.1 i).toNat<x3.length) then
 (Gg (nth x3 ((nth x2.1 i).toNat)) (nth x2.2 i1)).bind fun x4=>
 bif !x4 then
 bif inK .i64 (((n1:Nat):Int)+1) then
 bif inK .i64 (((i1:Nat):Int)+1) then
 some (.inl (n1+1,i1+1))
 else none
 else none
 else
 bif inK .i64 (((i1:Nat):Int)+1) then
 some (.inl (n1,i1+1))
 else none
 else none
 else none
 else none
 else
 some (.inr n1)
theorem Qc (x2:List Int×List Int) (x3:(List (Nat→Int))) (i:Nat):∀σ:Nat×Nat,aJ Tryz.prog (nav [1,1,1,1,1,0,1,0,0,1,1,0,0,1,1,0,0] (ah Tryz.f86)) (fun (σ:Nat×Nat)=>vX x2 x3 i σ.1 σ.2) (fun (_:Nat)=>(.exit 2)) (fun (y:Nat)=>vY x2 x3 i y) σ (EC x2 x3 i σ.1 σ.2)
 | (n1,i1)=>aB 2010 (.br 100000039 (.op 110000 (.el (cI .i64) x2.2 (.up i1)) (.op 120004 (.el (jc .u64 8) x3 .dn) (.call [] [] (LY (nth x3 ((nth x2.1 i).toNat)) (nth x2.2 i1)) .no fun x4=>.br 100000047 (.ps 1000003 [.k [6,7,8,10,30,31,32,36,37,38] []] (.ret (.inl (n1+1,i1+1)))) (.ps 1000003 [.k [6,7,8,10,30,31,32,36,37,38] []] (.ret (.inl (n1,i1+1))))))) (.ps 1000003 [.k [6,7,8,30,31,32] []] (.ret (.inr n1)))) (by kernel_rfl)
def J3 (x2:List Int×List Int) (x3:(List (Nat→Int))) (i:Nat) (n1:Nat) (i1:Nat):Option Nat:=aK (fun (σ:Nat×Nat)=>EC x2 x3 i σ.1 σ.2) FU (n1,i1)
theorem OA (x2:List Int×List Int) (x3:(List (Nat→Int))) (i:Nat) (n1:Nat) (i1:Nat):∀y:Nat,J3 x2 x3 i n1 i1=some y→Runs Tryz.prog (.loop (nav [1,1,1,1,1,0,1,0,0,1,1,0,0,1,1,0,0] (ah Tryz.f86))) (vX x2 x3 i n1 i1) ((.exit 2)) ((fun (y:Nat)=>vY x2 x3 i y) y):=
 aU (head:=fun (σ:Nat×Nat)=>vX x2 x3 i σ.1 σ.2) (eo:=fun (_:Nat)=>(.exit 2)) (so:=fun (y:Nat)=>vY x2 x3 i y) (Qc x2 x3 i) (fun _ h=>by cases h) FU (n1,i1)
def Ai (x2:List Int×List Int) (x3:(List (Nat→Int))) (n:Nat) (i:Nat):St:=⟨53,0,[(6,SL (cI .i64) x2.2),(7,SL (jc .u64 8) x3),(8,I ((n:Nat):Int)),(30,SL (cI .i64) x2.1),(31,I ((x2.1.length:Nat):Int)),(32,I ((i:Nat):Int))],[]⟩
def Ak (x2:List Int×List Int) (x3:(List (Nat→Int))) (n:Nat):St:=⟨53,0,[(8,I ((n:Nat):Int))],[]⟩
def IZ (x2:List Int×List Int) (x3:(List (Nat→Int))) (n:Nat) (i:Nat):Option ((Nat×Nat)⊕Nat):=
 bif decide (((i:Nat):Int)<((x2.1.length:Nat):Int)) then
 bif decide (i<x2.1.length) then
 (J3 x2 x3 i n 0).bind fun x4=>
 bif inK .i64 (((i:Nat):Int)+1) then
 some (.inl (x4,i+1))
 else none
 else none
 else
 some (.inr n)
theorem S9 (x2:List Int×List Int) (x3:(List (Nat→Int))):∀σ:Nat×Nat,aJ Tryz.prog (nav [1,1,1,1,1,0,1,0,0] (ah Tryz.f86)) (fun (σ:Nat×Nat)=>Ai x2 x3 σ.1 σ.2) (fun (_:Nat)=>(.exit 0)) (fun (y:Nat)=>Ak x2 x3 y) σ (IZ x2 x3 σ.1 σ.2)
 | (n,i)=>aB 1010 (.br 100000033 (.op 80000 (.el (cI .i64) x2.1 (.up i)) (.op 90002 (.ln (cI .i64) x2.2) (.ps 1000001 [.k [6,7,8,10,30,31,32,36,37,38] []] (.lp1 0 (OA x2 x3 i n 0) fun x4=>.ps 1000003 [.k [6,7,8,30,31,32] []] (.ret (.inl (x4,i+1))))))) (.ps 1000003 [.k [8] []] (.ret (.inr n)))) (by kernel_rfl)
def Pm (x2:List Int×List Int) (x3:(List (Nat→Int))) (n:Nat) (i:Nat):Option Nat:=aK (fun (σ:Nat×Nat)=>IZ x2 x3 σ.1 σ.2) FU (n,i)
theorem SG (x2:List Int×List Int) (x3:(List (Nat→Int))) (n:Nat) (i:Nat):∀y:Nat,Pm x2 x3 n i=some y→Runs Tryz.prog (.loop (nav [1,1,1,1,1,0,1,0,0] (ah Tryz.f86))) (Ai x2 x3 n i) ((.exit 0)) ((fun (y:Nat)=>Ak x2 x3 y) y):=
 aU (head:=fun (σ:Nat×Nat)=>Ai x2 x3 σ.1 σ.2) (eo:=fun (_:Nat)=>(.exit 0)) (so:=fun (y:Nat)=>Ak x2 x3 y) (S9 x2 x3) (fun _ h=>by cases h) FU (n,i)
def UO (s:Shape) (v:Int):Option Int:=
 (je s).bind fun x0=>
 bif !x0 then
 some 0
 else
 (KW s v).bind fun x1=>
 bif !x1 then
 some 0
 else
 (HY s v).bind fun x2=>
 (WL s).bind fun x3=>
 (Pm x2 x3 0 0).bind fun x4=>
 some ((x4:Nat):Int)
theorem WW (s:Shape) (v:Int):∀r,UO s v=some r→aj Tryz.prog 86 0 [AG Shape.D s,I v] [] (I r) []:=
 ak (enc:=fun r=>I r) (aP:=fun r=>[]) 10 (.call [] [] (jV s) .no fun x0=>.br 10008 (.ret 0) (.call [] [] (Ho s v) .no fun x1=>.br 100000021 (.ret 0) (.call [] [] (Fv s v) .no fun x2=>.call [] [] (Xo s) .no fun x3=>.op 60002 (.ln (cI .i64) x2.1) (.ps 1000001 [.k [6,7,8,30,31,32] []] (.lp1 0 (SG x2 x3 0 0) fun x4=>.ret ((x4:Nat):Int)))))) Tryz.func86 (by kernel_rfl) (by kernel_rfl) (by kernel_rfl)
def Aw (a:Shape) (b:Shape) (i:Nat):St:=⟨52,0,[(2,.ptr 10 0 0),(3,.ptr 11 0 0),(5,I ((i:Nat):Int))],[(10,BOX [I a.Ins,I a.bJ,I a.aH,SL Pair.D a.All]),(11,BOX [I b.Ins,I b.bJ,I b.aH,SL Pair.D b.All])]⟩
def AO (a:Shape) (b:Shape):St:=⟨52,0,[(4,B false)],[]⟩
def Ae (a:Shape) (b:Shape):St:=⟨52,0,[],[]⟩
def jm (a:Shape) (b:Shape) (i:Nat):Option (Nat⊕(Unit⊕Unit)):=
 bif decide (((i:Nat):Int)<((a.All.length:Nat):Int)) then
 bif decide (i<a.All.length) then
 bif decide (i<b.All.length) then
 bif !((((nth a.All i).From)==((nth b.All i).From))&&((((nth a.All i).To)==((nth b.All i).To))&&true)) then
 some (.inr (.inl ()))
 else
 bif inK .i64 (((i:Nat):Int)+1) then
 some (.inl (i+1))
 else none
 else none
 else none
 else
 some (.inr (.inr ()))
theorem Tc (a:Shape) (b:Shape):∀σ:Nat,aJ Tryz.prog (nav [1,1,0,1,0,0] (ah Tryz.f38)) (fun (σ:Nat)=>Aw a b σ) (fun (y:Unit⊕Unit)=>aN y (fun _=>.ret) (fun _=>(.exit 0))) (fun (y:Unit⊕Unit)=>aN y (fun y=>AO a b) (fun y=>Ae a b)) σ (jm a b σ)
 | i=>aB 1010 (.op 40006 (.ln Pair.D a.All) (.br 100000038 (.op 60006 (.el Pair.D a.All (.up i)) (.op 60016 (.el Pair.D b.All (.up i)) (.br 100000051 (.ps 1000003 [.k [4] []] (.ret (.inr (.inl ())))) (.ps 1000003 [.k [2,3,5] [10,11]] (.ret (.inl (i+1))))))) (.ps 1000003 [.k [] []] (.ret (.inr (.inr ())))))) (by kernel_rfl)
def BD (a:Shape) (b:Shape) (i:Nat):Option (Unit⊕Unit):=aK (fun (σ:Nat)=>jm a b σ) FU i
theorem SK (a:Shape) (b:Shape) (i:Nat):∀y:Unit⊕Unit,BD a b i=some y→Runs Tryz.prog (.loop (nav [1,1,0,1,0,0] (ah Tryz.f38))) (Aw a b i) (aN y (fun _=>.ret) (fun _=>(.exit 0))) ((fun (y:Unit⊕Unit)=>aN y (fun y=>AO a b) (fun y=>Ae a b)) y):=
 aU (head:=fun (σ:Nat)=>Aw a b σ) (eo:=fun (y:Unit⊕Unit)=>aN y (fun _=>.ret) (fun _=>(.exit 0))) (so:=fun (y:Unit⊕Unit)=>aN y (fun y=>AO a b) (fun y=>Ae a b)) (Tc a b) (fun y h=>by rcases y with y | y<;>cases h) FU i
def CS (a:Shape) (b:Shape):Option Bool:=
 bif a.Ins != b.Ins then
 some false
 else
 bif a.bJ != b.bJ then
 some false
 else
 bif a.aH != b.aH then
 some false
 else
 bif ((a.All.length:Nat):Int) != ((b.All.length:Nat):Int) then
 some false
 else
 (BD a b 0).bind fun y_=>aN y_ (fun x0=>
 some false)
 (fun x1=>
 some true)
theorem MF (a:Shape) (b:Shape):∀r,CS a b=some r→aj Tryz.prog 38 0 [AG Shape.D a,AG Shape.D b] [] (B r) []:=
 ak (enc:=fun r=>B r) (aP:=fun r=>[]) 10 (.br 10012 (.ret false) (.br 10026 (.ret false) (.br 10040 (.ret false) (.op 10044 (.ln Pair.D a.All) (.op 10050 (.ln Pair.D b.All) (.br 100000033 (.ret false) (.ps 1000001 [.k [2,3,5] [10,11]] (.lp2 0 (SK a b 0) (fun x0=>.ret false) (fun x1=>.ret true))))))))) Tryz.func38 (by kernel_rfl) (by kernel_rfl) (by kernel_rfl)
def wu:Option Unit:=some ()
theorem En:∀r,wu=some r→aj Tryz.prog 117 0 [SL (cI .i64) ([]:List Int)] [] (SL (cI .i64) ([]:List Int)) []:=fun _ _=>Sv
def bK:ByteArray:=⟨#[0,1,2,2,3,3,3,3,4,4,4,4,4,4,4,4,5,5,5,5,5,5,5,5,5,5,5,5,5,5,5,5,6,6,6,6,6,6,6,6,6,6,6,6,6,6,6,6,6,6,6,6,6,6,6,6,6,6,6,6,6,6,6,6,7,7,7,7,7,7,7,7,7,7,7,7,7,7,7,7,7,7,7,7,7,7,7,7,7,7,7,7,7,7,7,7,7,7,7,7,7,7,7,7,7,7,7,7,7,7,7,7,7,7,7,7,7,7,7,7,7,7,7,7,7,7,7,7,8,8,8,8,8,8,8,8,8,8,8,8,8,8,8,8,8,8,8,8,8,8,8,8,8,8,8,8,8,8,8,8,8,8,8,8,8,8,8,8,8,8,8,8,8,8,8,8,8,8,8,8,8,8,8,8,8,8,8,8,8,8,8,8,8,8,8,8,8,8,8,8,8,8,8,8,8,8,8,8,8,8,8,8,8,8,8,8,8,8,8,8,8,8,8,8,8,8,8,8,8,8,8,8,8,8,8,8,8,8,8,8,8,8,8,8,8,8,8,8,8,8,8,8,8,8,8,8]⟩
def I7 (x:Int):Option Int:=
 bif decide (x≥4294967296) then
 bif decide ((bn .u64 x 32)≥65536) then
 bif decide ((bn .u64 (bn .u64 x 32) 16)≥256) then
 bif decide (0≤IntKind.wrap .u8 (bn .u64 (bn .u64 (bn .u64 x 32) 16) 8)) then
 bif decide ((IntKind.wrap .u8 (bn .u64 (bn .u64 (bn .u64 x 32) 16) 8)).toNat<bK.size) then
 bif inK .i64 ((bK.get! ((IntKind.wrap .u8 (bn .u64 (bn .u64 (bn .u64 x 32) 16) 8)).toNat)).toNat:Int) then
 bif inK .i64 (((32+16)+8)+((bK.get! ((IntKind.wrap .u8 (bn .u64 (bn .u64 (bn .u64 x 32) 16) 8)).toNat)).toNat:Int)) then
 some (((32+16)+8)+((bK.get! ((IntKind.wrap .u8 (bn .u64 (bn .u64 (bn .u64 x 32) 16) 8)).toNat)).toNat:Int))
 else none
 else none
 else none
 else none
 else
 bif decide (0≤IntKind.wrap .u8 (bn .u64 (bn .u64 x 32) 16)) then
 bif decide ((IntKind.wrap .u8 (bn .u64 (bn .u64 x 32) 16)).toNat<bK.size) then
 bif inK .i64 ((bK.get! ((IntKind.wrap .u8 (bn .u64 (bn .u64 x 32) 16)).toNat)).toNat:Int) then
 bif inK .i64 ((32+16)+((bK.get! ((IntKind.wrap .u8 (bn .u64 (bn .u64 x 32) 16)).toNat)).toNat:Int)) then
 some ((32+16)+((bK.get! ((IntKind.wrap .u8 (bn .u64 (bn .u64 x 32) 16)).toNat)).toNat:Int))
 else none
 else none
 else none
 else none
 else
 bif decide ((bn .u64 x 32)≥256) then
 bif decide (0≤IntKind.wrap .u8 (bn .u64 (bn .u64 x 32) 8)) then
 bif decide ((IntKind.wrap .u8 (bn .u64 (bn .u64 x 32) 8)).toNat<bK.size) then
 bif inK .i64 ((bK.get! ((IntKind.wrap .u8 (bn .u64 (bn .u64 x 32) 8)).toNat)).toNat:Int) then
 bif inK .i64 ((32+8)+((bK.get! ((IntKind.wrap .u8 (bn .u64 (bn .u64 x 32) 8)).toNat)).toNat:Int)) then
 some ((32+8)+((bK.get! ((IntKind.wrap .u8 (bn .u64 (bn .u64 x 32) 8)).toNat)).toNat:Int))
 else none
 else none
 else none
 else none
 else
 bif decide (0≤IntKind.wrap .u8 (bn .u64 x 32)) then
 bif decide ((IntKind.wrap .u8 (bn .u64 x 32)).toNat<bK.size) then
 bif inK .i64 ((bK.get! ((IntKind.wrap .u8 (bn .u64 x 32)).toNat)).toNat:Int) then
 bif inK .i64 (32+((bK.get! ((IntKind.wrap .u8 (bn .u64 x 32)).toNat)).toNat:Int)) then
 some (32+((bK.get! ((IntKind.wrap .u8 (bn .u64 x 32)).toNat)).toNat:Int))
 else none
 else none
 else none
 else none
 else
 bif decide (x≥65536) then
 bif decide ((bn .u64 x 16)≥256) then
 bif decide (0≤IntKind.wrap .u8 (bn .u64 (bn .u64 x 16) 8)) then
 bif decide ((IntKind.wrap .u8 (bn .u64 (bn .u64 x 16) 8)).toNat<bK.size) then
 bif inK .i64 ((bK.get! ((IntKind.wrap .u8 (bn .u64 (bn .u64 x 16) 8)).toNat)).toNat:Int) then
 bif inK .i64 (((0+16)+8)+((bK.get! ((IntKind.wrap .u8 (bn .u64 (bn .u64 x 16) 8)).toNat)).toNat:Int)) then
 some (((0+16)+8)+((bK.get! ((IntKind.wrap .u8 (bn .u64 (bn .u64 x 16) 8)).toNat)).toNat:Int))
 else none
 else none
 else none
 else none
 else
 bif decide (0≤IntKind.wrap .u8 (bn .u64 x 16)) then
 bif decide ((IntKind.wrap .u8 (bn .u64 x 16)).toNat<bK.size) then
 bif inK .i64 ((bK.get! ((IntKind.wrap .u8 (bn .u64 x 16)).toNat)).toNat:Int) then
 bif inK .i64 ((0+16)+((bK.get! ((IntKind.wrap .u8 (bn .u64 x 16)).toNat)).toNat:Int)) then
 some ((0+16)+((bK.get! ((IntKind.wrap .u8 (bn .u64 x 16)).toNat)).toNat:Int))
 else none
 else none
 else none
 else none
 else
 bif decide (x≥256) then
 bif decide (0≤IntKind.wrap .u8 (bn .u64 x 8)) then
 bif decide ((IntKind.wrap .u8 (bn .u64 x 8)).toNat<bK.size) then
 bif inK .i64 ((bK.get! ((IntKind.wrap .u8 (bn .u64 x 8)).toNat)).toNat:Int) then
 bif inK .i64 ((0+8)+((bK.get! ((IntKind.wrap .u8 (bn .u64 x 8)).toNat)).toNat:Int)) then
 some ((0+8)+((bK.get! ((IntKind.wrap .u8 (bn .u64 x 8)).toNat)).toNat:Int))
 else none
 else none
 else none
 else none
 else
 bif decide (0≤IntKind.wrap .u8 x) then
 bif decide ((IntKind.wrap .u8 x).toNat<bK.size) then
 bif inK .i64 ((bK.get! ((IntKind.wrap .u8 x).toNat)).toNat:Int) then
 bif inK .i64 (0+((bK.get! ((IntKind.wrap .u8 x).toNat)).toNat:Int)) then
 some (0+((bK.get! ((IntKind.wrap .u8 x).toNat)).toNat:Int))
 else none
 else none
 else none
 else none
theorem NT (x:Int):∀r,I7 x=some r→aj Tryz.prog 205 0 [NI .u64 x] [] (I r) []:=
 ak (enc:=fun r=>I r) (aP:=fun r=>[]) 10 (.br 100000004 (.br 100000008 (.br 100000014 (.op 100004 .wr (.op 100006 (.ch bK .dn) (.ret (((32+16)+8)+((bK.get! ((IntKind.wrap .u8 (bn .u64 (bn .u64 (bn .u64 x 32) 16) 8)).toNat)).toNat:Int))))) (.op 100004 .wr (.op 100006 (.ch bK .dn) (.ret ((32+16)+((bK.get! ((IntKind.wrap .u8 (bn .u64 (bn .u64 x 32) 16)).toNat)).toNat:Int)))))) (.br 100000014 (.op 100004 .wr (.op 100006 (.ch bK .dn) (.ret ((32+8)+((bK.get! ((IntKind.wrap .u8 (bn .u64 (bn .u64 x 32) 8)).toNat)).toNat:Int))))) (.op 100004 .wr (.op 100006 (.ch bK .dn) (.ret (32+((bK.get! ((IntKind.wrap .u8 (bn .u64 x 32)).toNat)).toNat:Int))))))) (.br 100000008 (.br 100000014 (.op 100004 .wr (.op 100006 (.ch bK .dn) (.ret (((0+16)+8)+((bK.get! ((IntKind.wrap .u8 (bn .u64 (bn .u64 x 16) 8)).toNat)).toNat:Int))))) (.op 100004 .wr (.op 100006 (.ch bK .dn) (.ret ((0+16)+((bK.get! ((IntKind.wrap .u8 (bn .u64 x 16)).toNat)).toNat:Int)))))) (.br 100000014 (.op 100004 .wr (.op 100006 (.ch bK .dn) (.ret ((0+8)+((bK.get! ((IntKind.wrap .u8 (bn .u64 x 8)).toNat)).toNat:Int))))) (.op 100004 .wr (.op 100006 (.ch bK .dn) (.ret (0+((bK.get! ((IntKind.wrap .u8 x).toNat)).toNat:Int)))))))) Tryz.func205 (by kernel_rfl) (by kernel_rfl) (by kernel_rfl)
def Fj (x:Int):Option Int:=
 (I7 x).bind fun x0=>
 some x0
theorem Gm (x:Int):∀r,Fj x=some r→aj Tryz.prog 146 0 [NI .u64 x] [] (I r) []:=
 ak (enc:=fun r=>I r) (aP:=fun r=>[]) 10 (.call [] [] (NT x) .no fun x0=>.ret x0) Tryz.func146 (by kernel_rfl) (by kernel_rfl) (by kernel_rfl)
def cmp_Less_int (x:Int) (y:Int):Option Bool:=
 (cmp_isNaN_int x).bind fun x0=>
 bif x0 then
 (cmp_isNaN_int y).bind fun x1=>
 bif !x1 then
 some true
 else
 some (decide (x<y))
 else
 some (decide (x<y))
theorem IU (x:Int) (y:Int):∀r,cmp_Less_int x y=some r→aj Tryz.prog 229 0 [I x,I y] [] (B r) []:=
 ak (enc:=fun r=>B r) (aP:=fun r=>[]) 10 (.call [] [] (qW x) .no fun x0=>.br 10006 (.call [] [] (qW y) .no fun x1=>.br 10016 (.ret true) (.ret (decide (x<y)))) (.ret (decide (x<y)))) Tryz.func229 (by kernel_rfl) (by kernel_rfl) (by kernel_rfl)
def fG (a:Int) (b:Int) (i:Int):St:=⟨49,0,[(0,SL (cI .i64) ([]:List Int)),(1,I a),(2,I b),(6,I i),(7,I i)],[]⟩
def fB (a:Int) (b:Int) (i:Int):St:=⟨49,0,[(0,SL (cI .i64) ([]:List Int)),(1,I a),(2,I b),(6,I i)],[]⟩
def jf (a:Int) (b:Int) (i:Int):Option (Unit⊕Unit):=
 bif decide (i>a) then
 bif decide (0≤i) then
 bif decide (i.toNat<([]:List Int).length) then
 bif inK .i64 (i-1) then
 bif decide (0≤i-1) then
 bif decide ((i-1).toNat<([]:List Int).length) then
 (cmp_Less_int (nth ([]:List Int) i.toNat) (nth ([]:List Int) ((i-1).toNat))).bind fun x0=>
 bif x0 then
 bif inK .i64 (i-1) then
 bif inK .i64 (i-1) then
 bif decide (0≤i-1) then
 bif decide ((i-1).toNat<([]:List Int).length) then
 bif decide (0≤i) then
 bif decide (i.toNat<([]:List Int).length) then
 bif decide (0≤i) then
 bif decide (i.toNat<([]:List Int).length) then
 none
 else none
 else none
 else none
 else none
 else none
 else none
 else none
 else none
 else
 some (.inr ())
 else none
 else none
 else none
 else none
 else none
 else
 some (.inr ())
theorem oW (a:Int) (b:Int) (i:Int):∀σ:Unit,aJ Tryz.prog (nav [1,0,0,1,0,0,1,0,0] (ah Tryz.f223)) (fun (σ:Unit)=>fG a b i) (fun (_:Unit)=>(.exit 2)) (fun (y:Unit)=>fB a b i) σ (jf a b i)
 | ()=>aB 2010 (.br 40008 (.op 40012 (.el (cI .i64) ([]:List Int) .dn) (.op 40022 (.el (cI .i64) ([]:List Int) .dn) (.call [] [] (IU (nth ([]:List Int) i.toNat) (nth ([]:List Int) ((i-1).toNat))) .no fun x0=>.br 100000030 (.op 60016 (.el (cI .i64) ([]:List Int) .dn) (.op 60024 (.el (cI .i64) ([]:List Int) .dn) (.op 60028 (.el (cI .i64) ([]:List Int) .dn) .nil))) (.ps 1000003 [.k [0,1,2,6] []] (.ret (.inr ())))))) (.ps 1000003 [.k [0,1,2,6] []] (.ret (.inr ())))) (by kernel_rfl)
def jG (a:Int) (b:Int) (i:Int):Option Unit:=aK (fun (σ:Unit)=>jf a b i) FU ()
theorem pK (a:Int) (b:Int) (i:Int):∀y:Unit,jG a b i=some y→Runs Tryz.prog (.loop (nav [1,0,0,1,0,0,1,0,0] (ah Tryz.f223))) (fG a b i) ((.exit 2)) ((fun (y:Unit)=>fB a b i) y):=
 aU (head:=fun (σ:Unit)=>fG a b i) (eo:=fun (_:Unit)=>(.exit 2)) (so:=fun (y:Unit)=>fB a b i) (oW a b i) (fun _ h=>by cases h) FU ()
def fU (a:Int) (b:Int) (i:Int):St:=⟨49,0,[(0,SL (cI .i64) ([]:List Int)),(1,I a),(2,I b),(6,I i)],[]⟩
def fQ (a:Int) (b:Int):St:=⟨49,0,[],[]⟩
def jv (a:Int) (b:Int) (i:Int):Option (Int⊕Unit):=
 bif decide (i<b) then
 (jG a b i).bind fun x0=>
 bif inK .i64 (i+1) then
 some (.inl (i+1))
 else none
 else
 some (.inr ())
theorem rU (a:Int) (b:Int):∀σ:Int,aJ Tryz.prog (nav [1,0,0] (ah Tryz.f223)) (fun (σ:Int)=>fU a b σ) (fun (_:Unit)=>(.exit 0)) (fun (y:Unit)=>fQ a b) σ (jv a b σ)
 | i=>aB 1010 (.br 100000012 (.ps 1000001 [.k [0,1,2,6,7] []] (.lp1 0 (pK a b i) fun x0=>.ps 1000003 [.k [0,1,2,6] []] (.ret (.inl (i+1))))) (.ps 1000003 [.k [] []] (.ret (.inr ())))) (by kernel_rfl)
def kN (a:Int) (b:Int) (i:Int):Option Unit:=aK (fun (σ:Int)=>jv a b σ) FU i
theorem rO (a:Int) (b:Int) (i:Int):∀y:Unit,kN a b i=some y→Runs Tryz.prog (.loop (nav [1,0,0] (ah Tryz.f223))) (fU a b i) ((.exit 0)) ((fun (y:Unit)=>fQ a b) y):=
 aU (head:=fun (σ:Int)=>fU a b σ) (eo:=fun (_:Unit)=>(.exit 0)) (so:=fun (y:Unit)=>fQ a b) (rU a b) (fun _ h=>by cases h) FU i
def lU (a:Int) (b:Int):Option Unit:=
 bif inK .i64 (a+1) then
 (kN a b (a+1)).bind fun x0=>
 some ()
 else none
theorem tC (a:Int) (b:Int):∀r,lU a b=some r→aj Tryz.prog 223 0 [SL (cI .i64) ([]:List Int),I a,I b] [] (.tup []) []:=
 ak (enc:=fun r=>.tup []) (aP:=fun r=>[]) 10 (.ps 1000001 [.k [0,1,2,6] []] (.lp1 0 (rO a b (a+1)) fun x0=>.ret ())) Tryz.func223 (by kernel_rfl) (by kernel_rfl) (by kernel_rfl)
def iH (a:Int) (a1:Int) (a2:Int):St:=⟨134,0,[(0,SL (cI .i64) ([]:List Int)),(1,I a),(2,I a1),(3,I a2),(8,B true),(9,B true)],[]⟩
def iJ (a:Int) (a1:Int) (a2:Int):St:=⟨134,0,[],[]⟩
def mZ (a:Int) (a1:Int) (a2:Int):Option (Unit⊕Unit):=
 bif inK .i64 (a1-a) then
 bif decide ((a1-a)≤12) then
 (lU a a1).bind fun x0=>
 some (.inr ())
 else
 bif a2==0 then
 none
 else
 none
 else none
theorem wX (a:Int) (a1:Int) (a2:Int):∀σ:Unit,aJ Tryz.prog (nav [1,1,0,0] (ah Tryz.f172)) (fun (σ:Unit)=>iH a a1 a2) (fun (_:Unit)=>.ret) (fun (y:Unit)=>iJ a a1 a2) σ (mZ a a1 a2)
 | ()=>aB 1010 (.br 100000023 (.call [] [] (tC a a1) .no fun x0=>.ps 1000003 [.k [] []] (.ret (.inr ()))) (.br 100000029 .nil .nil)) (by kernel_rfl)
def oI (a:Int) (a1:Int) (a2:Int):Option Unit:=aK (fun (σ:Unit)=>mZ a a1 a2) FU ()
theorem xK (a:Int) (a1:Int) (a2:Int):∀y:Unit,oI a a1 a2=some y→Runs Tryz.prog (.loop (nav [1,1,0,0] (ah Tryz.f172))) (iH a a1 a2) (.ret) ((fun (y:Unit)=>iJ a a1 a2) y):=
 aU (head:=fun (σ:Unit)=>iH a a1 a2) (eo:=fun (_:Unit)=>.ret) (so:=fun (y:Unit)=>iJ a a1 a2) (wX a a1 a2) (fun _ h=>by cases h) FU ()
def rD (a:Int) (a1:Int) (a2:Int):Option Unit:=
 (oI a a1 a2).bind fun x0=>
 some ()
theorem Ar (a:Int) (a1:Int) (a2:Int):∀r,rD a a1 a2=some r→aj Tryz.prog 172 0 [SL (cI .i64) ([]:List Int),I a,I a1,I a2] [] (.tup []) []:=
 ak (enc:=fun r=>.tup []) (aP:=fun r=>[]) 10 (.ps 1000001 [.k [0,1,2,3,8,9] []] (.lp1 0 (xK a a1 a2) fun x0=>.ret ())) Tryz.func172 (by kernel_rfl) (by kernel_rfl) (by kernel_rfl)
def AX:Option Unit:=
 (Fj (IntKind.wrap .u64 ((([]:List Int).length:Nat):Int))).bind fun x0=>
 (rD 0 ((([]:List Int).length:Nat):Int) x0).bind fun x1=>
 some ()
theorem Ic:∀r,AX=some r→aj Tryz.prog 119 0 [SL (cI .i64) ([]:List Int)] [] (.tup []) []:=
 ak (enc:=fun r=>.tup []) (aP:=fun r=>[]) 10 (.op 2 (.ln (cI .i64) ([]:List Int)) (.op 10006 .wr (.call [] [] (Gm (IntKind.wrap .u64 ((([]:List Int).length:Nat):Int))) .no fun x0=>.call [] [] (Ar 0 ((([]:List Int).length:Nat):Int) x0) .no fun x1=>.ret ()))) Tryz.func119 (by kernel_rfl) (by kernel_rfl) (by kernel_rfl)
def zN (s:Shape) (i:Nat):St:=⟨31,0,[(2,.ptr 10 0 0),(5,SL (cI .i64) ([]:List Int)),(12,SL (cI .i64) ([]:List Int)),(13,I ((([]:List Int).length:Nat):Int)),(14,I ((i:Nat):Int))],[(10,BOX [I s.Ins,I s.bJ,I s.aH,SL Pair.D s.All])]⟩
def Aj (s:Shape):St:=⟨31,0,[(4,B false)],[]⟩
def AA (s:Shape):St:=⟨31,0,[(2,.ptr 10 0 0),(5,SL (cI .i64) ([]:List Int))],[(10,BOX [I s.Ins,I s.bJ,I s.aH,SL Pair.D s.All])]⟩
def IL (s:Shape) (i:Nat):Option (Nat⊕(Unit⊕Unit)):=
 bif decide (((i:Nat):Int)<((([]:List Int).length:Nat):Int)) then
 bif decide (i<([]:List Int).length) then
 bif inK .i64 (s.Ins+((i:Nat):Int)) then
 bif (nth ([]:List Int) i) != (s.Ins+((i:Nat):Int)) then
 some (.inr (.inl ()))
 else
 bif inK .i64 (((i:Nat):Int)+1) then
 some (.inl (i+1))
 else none
 else none
 else none
 else
 some (.inr (.inr ()))
theorem Uj (s:Shape):∀σ:Nat,aJ Tryz.prog (nav [1,1,1,0,1,0,0] (ah Tryz.f56)) (fun (σ:Nat)=>zN s σ) (fun (y:Unit⊕Unit)=>aN y (fun _=>.ret) (fun _=>(.exit 0))) (fun (y:Unit⊕Unit)=>aN y (fun y=>Aj s) (fun y=>AA s)) σ (IL s σ)
 | i=>aB 1010 (.br 100000015 (.op 50002 (.el (cI .i64) ([]:List Int) (.up i)) (.br 100000024 (.ps 1000003 [.k [4] []] (.ret (.inr (.inl ())))) (.ps 1000003 [.k [2,5,12,13,14] [10]] (.ret (.inl (i+1)))))) (.ps 1000003 [.k [2,5] [10]] (.ret (.inr (.inr ()))))) (by kernel_rfl)
def NU (s:Shape) (i:Nat):Option (Unit⊕Unit):=aK (fun (σ:Nat)=>IL s σ) FU i
theorem TR (s:Shape) (i:Nat):∀y:Unit⊕Unit,NU s i=some y→Runs Tryz.prog (.loop (nav [1,1,1,0,1,0,0] (ah Tryz.f56))) (zN s i) (aN y (fun _=>.ret) (fun _=>(.exit 0))) ((fun (y:Unit⊕Unit)=>aN y (fun y=>Aj s) (fun y=>AA s)) y):=
 aU (head:=fun (σ:Nat)=>zN s σ) (eo:=fun (y:Unit⊕Unit)=>aN y (fun _=>.ret) (fun _=>(.exit 0))) (so:=fun (y:Unit⊕Unit)=>aN y (fun y=>Aj s) (fun y=>AA s)) (Uj s) (fun y h=>by rcases y with y | y<;>cases h) FU i
def WH (s:Shape):Option Bool:=
 (wu).bind fun x0=>
 (AX).bind fun x1=>
 (NU s 0).bind fun y_=>aN y_ (fun x2=>
 some false)
 (fun x3=>
 some (((([]:List Int).length:Nat):Int)==s.bJ))
theorem WX (s:Shape):∀r,WH s=some r→aj Tryz.prog 56 0 [AG Shape.D s,SL (cI .i64) ([]:List Int)] [] (B r) []:=
 ak (enc:=fun r=>B r) (aP:=fun r=>[]) 10 (.call [] [] (En) .no fun x0=>.call [] [] (Ic) .no fun x1=>.op 30002 (.ln (cI .i64) ([]:List Int)) (.ps 1000001 [.k [2,5,12,13,14] [10]] (.lp2 0 (TR s 0) (fun x2=>.ret false) (fun x3=>.op 90002 (.ln (cI .i64) ([]:List Int)) (.ret (((([]:List Int).length:Nat):Int)==s.bJ)))))) Tryz.func56 (by kernel_rfl) (by kernel_rfl) (by kernel_rfl)
def vS (s:List Int):Option (List Int):=
 bif decide (0<s.length) then
 bif decide (0+s.length≤2147483648) then
 some ([]++s)
 else none
 else none
theorem Em (s:List Int):∀r,vS s=some r→aj Tryz.prog 117 0 [SL (cI .i64) s] [] (SL (cI .i64) r) []:=
 ak (enc:=fun r=>SL (cI .i64) r) (aP:=fun r=>[]) 10 (.op 10002 (.ln (cI .i64) s) (.op 30004 (.ap (cI .i64) [] s 1 fun _=>⟨rfl,rfl⟩) (.ps 1000003 [.z 2] (.ret ([]++s))))) Tryz.func117 (by kernel_rfl) (by kernel_rfl) (by kernel_rfl)
def dQ (s:List Int):Option (List Int):=bif decide (s.length≤2147483648) then some s else none
theorem FZ (s:List Int):∀r,dQ s=some r→aj Tryz.prog 117 0 [SL (cI .i64) s] [] (SL (cI .i64) r) []:=fun r h=>by
 by_cases hl:s.length≤2147483648
 ·rw[show dQ s=some s from by unfold dQ;rw[decide_eq_true hl];rfl] at h
  cases h
  cases s with
  | nil=>exact Sv
  | cons a t=>exact Em (a::t) (a::t) (by unfold vS;rw[decide_eq_true (show 0<(a::t).length by simp),decide_eq_true (show 0+(a::t).length≤2147483648 by omega)];rfl)
 ·rw[show dQ s=none from by unfold dQ;rw[decide_eq_false hl];rfl] at h
  cases h
def uS (s:List Int):Option (List Int):=
 bif decide (0<s.length) then
 bif decide (0+s.length≤2147483648) then
 some ([]++s)
 else none
 else none
theorem Eo (s:List Int):∀r,uS s=some r→aj Tryz.prog 117 0 [SL (cI .i64) s] [] (.msl 0 0 none none) [(0,ROW 1 (cI .i64) r 0)]:=
 ak (enc:=fun r=>.msl 0 0 none none) (aP:=fun r=>[(0,ROW 1 (cI .i64) r 0)]) 10 (.op 10002 (.ln (cI .i64) s) (.op 30004 (.ap (cI .i64) [] s 1 fun _=>⟨rfl,rfl⟩) (.ps 1000003 [.k [2] [11],.m 11 0] (.ret ([]++s))))) Tryz.func117 (by kernel_rfl) (by kernel_rfl) (by kernel_rfl)
def fA (a:Int) (b:Int) (i:Int) (j:Int) (dO:List Int):St:=⟨49,1,[(0,.msl 0 0 none none),(1,I a),(2,I b),(6,I i),(7,I j)],[(0,ROW 1 (cI .i64) dO 0)]⟩
def fD (a:Int) (b:Int) (i:Int) (dO:List Int):St:=⟨49,1,[(0,.msl 0 0 none none),(1,I a),(2,I b),(6,I i)],[(0,ROW 1 (cI .i64) dO 0)]⟩
def iT (a:Int) (b:Int) (i:Int) (j:Int) (dO:List Int):Option ((Int×List Int)⊕(List Int)):=
 bif decide (j>a) then
 bif decide (0≤j) then
 bif decide (j.toNat<dO.length) then
 bif decide (j.toNat<dO.length) then
 bif inK .i64 (j-1) then
 bif decide (0≤j-1) then
 bif decide ((j-1).toNat<dO.length) then
 bif decide ((j-1).toNat<dO.length) then
 (cmp_Less_int (nth dO j.toNat) (nth dO ((j-1).toNat))).bind fun x0=>
 bif x0 then
 bif inK .i64 (j-1) then
 bif inK .i64 (j-1) then
 bif decide (0≤j-1) then
 bif decide ((j-1).toNat<dO.length) then
 bif decide ((j-1).toNat<dO.length) then
 bif decide (0≤j) then
 bif decide (j.toNat<dO.length) then
 bif decide (j.toNat<dO.length) then
 bif decide (0≤j) then
 bif decide (j.toNat<dO.length) then
 bif decide (j.toNat<dO.length) then
 bif decide (0≤j-1) then
 bif decide ((j-1).toNat<(dO.set j.toNat (nth dO ((j-1).toNat))).length) then
 bif decide ((j-1).toNat<(dO.set j.toNat (nth dO ((j-1).toNat))).length) then
 bif inK .i64 (j-1) then
 some (.inl (j-1,(dO.set j.toNat (nth dO ((j-1).toNat))).set ((j-1).toNat) (nth dO j.toNat)))
 else none
 else none
 else none
 else none
 else none
 else none
 else none
 else none
 else none
 else none
 else none
 else none
 else none
 else none
 else none
 else
 some (.inr dO)
 else none
 else none
 else none
 else none
 else none
 else none
 else none
 else
 some (.inr dO)
theorem pI (a:Int) (b:Int) (i:Int):∀σ:Int×List Int,aJ Tryz.prog (nav [1,0,0,1,0,0,1,0,0] (ah Tryz.f223)) (fun (σ:Int×List Int)=>fA a b i σ.1 σ.2) (fun (_:List Int)=>(.exit 2)) (fun (y:List Int)=>fD a b i y) σ (iT a b i σ.1 σ.2)
 | (j,dO)=>aB 2010 (.br 40008 (.op 40012 (.el (cI .i64) dO .dn) (.op 40014 (.ld (cI .i64) dO) (.op 40022 (.el (cI .i64) dO .dn) (.op 40024 (.ld (cI .i64) dO) (.call [] [] (IU (nth dO j.toNat) (nth dO ((j-1).toNat))) .no fun x0=>.br 100000030 (.op 60016 (.el (cI .i64) dO .dn) (.op 60018 (.ld (cI .i64) dO) (.op 60024 (.el (cI .i64) dO .dn) (.op 60026 (.ld (cI .i64) dO) (.op 60028 (.el (cI .i64) dO .dn) (.op 60030 (.st (cI .i64) dO (nth dO ((j-1).toNat))) (.op 60032 (.el (cI .i64) (dO.set j.toNat (nth dO ((j-1).toNat))) .dn) (.op 60034 (.st (cI .i64) (dO.set j.toNat (nth dO ((j-1).toNat))) (nth dO j.toNat)) (.ps 1000003 [.k [0,1,2,6,7] [0]] (.ret (.inl (j-1,(dO.set j.toNat (nth dO ((j-1).toNat))).set ((j-1).toNat) (nth dO j.toNat))))))))))))) (.ps 1000003 [.k [0,1,2,6] [0]] (.ret (.inr dO)))))))) (.ps 1000003 [.k [0,1,2,6] [0]] (.ret (.inr dO)))) (by kernel_rfl)
def jF (a:Int) (b:Int) (i:Int) (j:Int) (dO:List Int):Option (List Int):=aK (fun (σ:Int×List Int)=>iT a b i σ.1 σ.2) FU (j,dO)
theorem qx (a:Int) (b:Int) (i:Int) (j:Int) (dO:List Int):∀y:List Int,jF a b i j dO=some y→Runs Tryz.prog (.loop (nav [1,0,0,1,0,0,1,0,0] (ah Tryz.f223))) (fA a b i j dO) ((.exit 2)) ((fun (y:List Int)=>fD a b i y) y):=
 aU (head:=fun (σ:Int×List Int)=>fA a b i σ.1 σ.2) (eo:=fun (_:List Int)=>(.exit 2)) (so:=fun (y:List Int)=>fD a b i y) (pI a b i) (fun _ h=>by cases h) FU (j,dO)
def eY (a:Int) (b:Int) (i:Int) (data:List Int):St:=⟨49,1,[(0,.msl 0 0 none none),(1,I a),(2,I b),(6,I i)],[(0,ROW 1 (cI .i64) data 0)]⟩
def fF (a:Int) (b:Int) (o:List Int):St:=⟨49,1,[],[(0,ROW 1 (cI .i64) o 0)]⟩
def jd (a:Int) (b:Int) (i:Int) (data:List Int):Option ((Int×List Int)⊕(List Int)):=
 bif decide (i<b) then
 (jF a b i i data).bind fun x0=>
 bif inK .i64 (i+1) then
 some (.inl (i+1,x0))
 else none
 else
 some (.inr data)
theorem oU (a:Int) (b:Int):∀σ:Int×List Int,aJ Tryz.prog (nav [1,0,0] (ah Tryz.f223)) (fun (σ:Int×List Int)=>eY a b σ.1 σ.2) (fun (_:List Int)=>(.exit 0)) (fun (y:List Int)=>fF a b y) σ (jd a b σ.1 σ.2)
 | (i,data)=>aB 1010 (.br 100000012 (.ps 1000001 [.k [0,1,2,6,7] [0]] (.lp1 0 (qx a b i i data) fun x0=>.ps 1000003 [.k [0,1,2,6] [0]] (.ret (.inl (i+1,x0))))) (.ps 1000003 [.k [] [0]] (.ret (.inr data)))) (by kernel_rfl)
def jI (a:Int) (b:Int) (i:Int) (data:List Int):Option (List Int):=aK (fun (σ:Int×List Int)=>jd a b σ.1 σ.2) FU (i,data)
theorem qh (a:Int) (b:Int) (i:Int) (data:List Int):∀y:List Int,jI a b i data=some y→Runs Tryz.prog (.loop (nav [1,0,0] (ah Tryz.f223))) (eY a b i data) ((.exit 0)) ((fun (y:List Int)=>fF a b y) y):=
 aU (head:=fun (σ:Int×List Int)=>eY a b σ.1 σ.2) (eo:=fun (_:List Int)=>(.exit 0)) (so:=fun (y:List Int)=>fF a b y) (oU a b) (fun _ h=>by cases h) FU (i,data)
def kM (o0:List Int) (a:Int) (b:Int):Option (List Int):=
 bif inK .i64 (a+1) then
 (jI a b (a+1) o0).bind fun x0=>
 some x0
 else none
theorem rG (o0:List Int) (a:Int) (b:Int):∀r,kM o0 a b=some r→aj Tryz.prog 223 1 [.msl 0 0 none none,I a,I b] [(0,ROW 1 (cI .i64) o0 0)] (.tup []) [(0,ROW 1 (cI .i64) r 0)]:=
 ak (enc:=fun r=>.tup []) (aP:=fun r=>[(0,ROW 1 (cI .i64) r 0)]) 10 (.ps 1000001 [.k [0,1,2,6] [0]] (.lp1 0 (qh a b (a+1) o0) fun x0=>.ret x0)) Tryz.func223 (by kernel_rfl) (by kernel_rfl) (by kernel_rfl)
def gX (o0:List Int) (a:Int) (a1:Int) (a2:Int):St:=⟨134,1,[(0,.msl 0 0 none none),(1,I a),(2,I a1),(3,I a2),(8,B true),(9,B true)],[(0,ROW 1 (cI .i64) o0 0)]⟩
def gY (o0:List Int) (a:Int) (a1:Int) (a2:Int) (o:List Int):St:=⟨134,1,[],[(0,ROW 1 (cI .i64) o 0)]⟩
def lN (o0:List Int) (a:Int) (a1:Int) (a2:Int):Option (Unit⊕(List Int)):=
 bif inK .i64 (a1-a) then
 bif decide ((a1-a)≤12) then
 (kM o0 a a1).bind fun x0=>
 some (.inr x0)
 else
 bif a2==0 then
 none
 else
 none
 else none
theorem wF (o0:List Int) (a:Int) (a1:Int) (a2:Int):∀σ:Unit,aJ Tryz.prog (nav [1,1,0,0] (ah Tryz.f172)) (fun (σ:Unit)=>gX o0 a a1 a2) (fun (_:List Int)=>.ret) (fun (y:List Int)=>gY o0 a a1 a2 y) σ (lN o0 a a1 a2)
 | ()=>aB 1010 (.br 100000023 (.call [0] [] (rG o0 a a1) .no fun x0=>.ps 1000003 [.k [] [0]] (.ret (.inr x0))) (.br 100000029 .nil .nil)) (by kernel_rfl)
def nJ (o0:List Int) (a:Int) (a1:Int) (a2:Int):Option (List Int):=aK (fun (σ:Unit)=>lN o0 a a1 a2) FU ()
theorem vH (o0:List Int) (a:Int) (a1:Int) (a2:Int):∀y:List Int,nJ o0 a a1 a2=some y→Runs Tryz.prog (.loop (nav [1,1,0,0] (ah Tryz.f172))) (gX o0 a a1 a2) (.ret) ((fun (y:List Int)=>gY o0 a a1 a2 y) y):=
 aU (head:=fun (σ:Unit)=>gX o0 a a1 a2) (eo:=fun (_:List Int)=>.ret) (so:=fun (y:List Int)=>gY o0 a a1 a2 y) (wF o0 a a1 a2) (fun _ h=>by cases h) FU ()
def oJ (o0:List Int) (a:Int) (a1:Int) (a2:Int):Option (List Int):=
 (nJ o0 a a1 a2).bind fun x0=>
 some x0
theorem wO (o0:List Int) (a:Int) (a1:Int) (a2:Int):∀r,oJ o0 a a1 a2=some r→aj Tryz.prog 172 1 [.msl 0 0 none none,I a,I a1,I a2] [(0,ROW 1 (cI .i64) o0 0)] (.tup []) [(0,ROW 1 (cI .i64) r 0)]:=
 ak (enc:=fun r=>.tup []) (aP:=fun r=>[(0,ROW 1 (cI .i64) r 0)]) 10 (.ps 1000001 [.k [0,1,2,3,8,9] [0]] (.lp1 0 (vH o0 a a1 a2) fun x0=>.ret x0)) Tryz.func172 (by kernel_rfl) (by kernel_rfl) (by kernel_rfl)
def wK (o0:List Int):Option (List Int):=
 (Fj (IntKind.wrap .u64 ((o0.length:Nat):Int))).bind fun x0=>
 (oJ o0 0 ((o0.length:Nat):Int) x0).bind fun x1=>
 some x1
theorem Fg (o0:List Int):∀r,wK o0=some r→aj Tryz.prog 119 1 [.msl 0 0 none none] [(0,ROW 1 (cI .i64) o0 0)] (.tup []) [(0,ROW 1 (cI .i64) r 0)]:=
 ak (enc:=fun r=>.tup []) (aP:=fun r=>[(0,ROW 1 (cI .i64) r 0)]) 10 (.op 2 (.ln (cI .i64) o0) (.op 10006 .wr (.call [] [] (Gm (IntKind.wrap .u64 ((o0.length:Nat):Int))) .no fun x0=>.call [0] [] (wO o0 0 ((o0.length:Nat):Int) x0) .no fun x1=>.ret x1))) Tryz.func119 (by kernel_rfl) (by kernel_rfl) (by kernel_rfl)
def vZ (s:Shape) (x1:List Int) (i:Nat):St:=⟨31,0,[(2,.ptr 10 0 0),(5,.msl 100006 0 none none),(12,.msl 100006 0 none none),(13,I ((x1.length:Nat):Int)),(14,I ((i:Nat):Int))],[(10,BOX [I s.Ins,I s.bJ,I s.aH,SL Pair.D s.All]),(100006,ROW 1 (cI .i64) x1 0)]⟩
def wC (s:Shape) (x1:List Int):St:=⟨31,0,[(4,B false)],[]⟩
def uO (s:Shape) (x1:List Int):St:=⟨31,0,[(2,.ptr 10 0 0),(5,.msl 100006 0 none none)],[(10,BOX [I s.Ins,I s.bJ,I s.aH,SL Pair.D s.All]),(100006,ROW 1 (cI .i64) x1 0)]⟩
def EL (s:Shape) (x1:List Int) (i:Nat):Option (Nat⊕(Unit⊕Unit)):=
 bif decide (((i:Nat):Int)<((x1.length:Nat):Int)) then
 bif decide (i<x1.length) then
 bif decide (i<x1.length) then
 bif inK .i64 (s.Ins+((i:Nat):Int)) then
 bif (nth x1 i) != (s.Ins+((i:Nat):Int)) then
 some (.inr (.inl ()))
 else
 bif inK .i64 (((i:Nat):Int)+1) then
 some (.inl (i+1))
 else none
 else none
 else none
 else none
 else
 some (.inr (.inr ()))
theorem PS (s:Shape) (x1:List Int):∀σ:Nat,aJ Tryz.prog (nav [1,1,1,0,1,0,0] (ah Tryz.f56)) (fun (σ:Nat)=>vZ s x1 σ) (fun (y:Unit⊕Unit)=>aN y (fun _=>.ret) (fun _=>(.exit 0))) (fun (y:Unit⊕Unit)=>aN y (fun y=>wC s x1) (fun y=>uO s x1)) σ (EL s x1 σ)
 | i=>aB 1010 (.br 100000015 (.op 50002 (.el (cI .i64) x1 (.up i)) (.op 50004 (.ld (cI .i64) x1) (.br 100000024 (.ps 1000003 [.k [4] []] (.ret (.inr (.inl ())))) (.ps 1000003 [.k [2,5,12,13,14] [10,100006]] (.ret (.inl (i+1))))))) (.ps 1000003 [.k [2,5] [10,100006]] (.ret (.inr (.inr ()))))) (by kernel_rfl)
def JY (s:Shape) (x1:List Int) (i:Nat):Option (Unit⊕Unit):=aK (fun (σ:Nat)=>EL s x1 σ) FU i
theorem NY (s:Shape) (x1:List Int) (i:Nat):∀y:Unit⊕Unit,JY s x1 i=some y→Runs Tryz.prog (.loop (nav [1,1,1,0,1,0,0] (ah Tryz.f56))) (vZ s x1 i) (aN y (fun _=>.ret) (fun _=>(.exit 0))) ((fun (y:Unit⊕Unit)=>aN y (fun y=>wC s x1) (fun y=>uO s x1)) y):=
 aU (head:=fun (σ:Nat)=>vZ s x1 σ) (eo:=fun (y:Unit⊕Unit)=>aN y (fun _=>.ret) (fun _=>(.exit 0))) (so:=fun (y:Unit⊕Unit)=>aN y (fun y=>wC s x1) (fun y=>uO s x1)) (PS s x1) (fun y h=>by rcases y with y | y<;>cases h) FU i
def Pv (s:Shape) (order:List Int):Option Bool:=
 (uS order).bind fun x0=>
 (wK x0).bind fun x1=>
 (JY s x1 0).bind fun y_=>aN y_ (fun x2=>
 some false)
 (fun x3=>
 some (((x1.length:Nat):Int)==s.bJ))
theorem Ub (s:Shape) (order:List Int):∀r,Pv s order=some r→aj Tryz.prog 56 0 [AG Shape.D s,SL (cI .i64) order] [] (B r) []:=
 ak (enc:=fun r=>B r) (aP:=fun r=>[]) 10 (.call [] [100006] (Eo order) .no fun x0=>.call [100006] [] (Fg x0) .no fun x1=>.op 30002 (.ln (cI .i64) x1) (.ps 1000001 [.k [2,5,12,13,14] [10,100006]] (.lp2 0 (NY s x1 0) (fun x2=>.ret false) (fun x3=>.op 90002 (.ln (cI .i64) x1) (.ret (((x1.length:Nat):Int)==s.bJ)))))) Tryz.func56 (by kernel_rfl) (by kernel_rfl) (by kernel_rfl)
def JF (s:Shape) (order:List Int):Option Bool:=bif order.isEmpty then WH s else Pv s order
theorem OX (s:Shape) (order:List Int):∀r,JF s order=some r→aj Tryz.prog 56 0 [AG Shape.D s,SL (cI .i64) order] [] (B r) []:=
 match order with
 | []=>fun r h=>WX s r h
 | afx::afg=>fun r h=>Ub s (afx::afg) r h
def DL (order:List Int) (sum:Int) (i:Nat) (s1:Int) (s2:Int) (s3:Int) (s4:List Pair):St:=⟨40,0,[(2,.ptr 10 0 0),(6,I sum),(21,SL (cI .i64) order),(22,I ((order.length:Nat):Int)),(23,I ((i:Nat):Int))],[(10,BOX [I s1,I s2,I s3,SL Pair.D s4])]⟩
def Dq (order:List Int) (sum:Int):St:=⟨40,0,[(6,I sum)],[]⟩
def Jf (order:List Int) (sum:Int) (i:Nat) (s1:Int) (s2:Int) (s3:Int) (s4:List Pair):Option ((Int×Nat×Int×Int×Int×List Pair)⊕Int):=
 bif decide (((i:Nat):Int)<((order.length:Nat):Int)) then
 bif decide (i<order.length) then
 (Nj (Shape.mk s1 s2 s3 s4) (nth order i)).bind fun x2=>
 bif inK .i64 (sum+x2.2.1) then
 bif inK .i64 (((i:Nat):Int)+1) then
 some (.inl (sum+x2.2.1,i+1,x2.1.Ins,x2.1.bJ,x2.1.aH,x2.1.All))
 else none
 else none
 else none
 else
 some (.inr sum)
theorem VR (order:List Int):∀σ:Int×Nat×Int×Int×Int×List Pair,aJ Tryz.prog (nav [1,1,1,0,1,0,0] (ah Tryz.f21)) (fun (σ:Int×Nat×Int×Int×Int×List Pair)=>DL order σ.1 σ.2.1 σ.2.2.1 σ.2.2.2.1 σ.2.2.2.2.1 σ.2.2.2.2.2) (fun (_:Int)=>(.exit 1)) (fun (y:Int)=>Dq order y) σ (Jf order σ.1 σ.2.1 σ.2.2.1 σ.2.2.2.1 σ.2.2.2.2.1 σ.2.2.2.2.2)
 | (sum,i,s1,s2,s3,s4)=>aB 1010 (.br 100000024 (.op 80000 (.el (cI .i64) order (.up i)) (.call [] [] (MV (Shape.mk s1 s2 s3 s4) (nth order i)) .no fun x2=>.ps 1000003 [.k [2,6,21,22,23] [10]] (.ret (.inl (sum+x2.2.1,i+1,x2.1.Ins,x2.1.bJ,x2.1.aH,x2.1.All))))) (.ps 1000003 [.k [6] []] (.ret (.inr sum)))) (by kernel_rfl)
def RG (order:List Int) (sum:Int) (i:Nat) (s1:Int) (s2:Int) (s3:Int) (s4:List Pair):Option Int:=aK (fun (σ:Int×Nat×Int×Int×Int×List Pair)=>Jf order σ.1 σ.2.1 σ.2.2.1 σ.2.2.2.1 σ.2.2.2.2.1 σ.2.2.2.2.2) FU (sum,i,s1,s2,s3,s4)
theorem U7 (order:List Int) (sum:Int) (i:Nat) (s1:Int) (s2:Int) (s3:Int) (s4:List Pair):∀y:Int,RG order sum i s1 s2 s3 s4=some y→Runs Tryz.prog (.loop (nav [1,1,1,0,1,0,0] (ah Tryz.f21))) (DL order sum i s1 s2 s3 s4) ((.exit 1)) ((fun (y:Int)=>Dq order y) y):=
 aU (head:=fun (σ:Int×Nat×Int×Int×Int×List Pair)=>DL order σ.1 σ.2.1 σ.2.2.1 σ.2.2.2.1 σ.2.2.2.2.1 σ.2.2.2.2.2) (eo:=fun (_:Int)=>(.exit 1)) (so:=fun (y:Int)=>Dq order y) (VR order) (fun _ h=>by cases h) FU (sum,i,s1,s2,s3,s4)
def Yb (s:Shape) (order:List Int):Option (Int×Int):=
 (je s).bind fun x0=>
 bif !x0 then
 some (0,1)
 else
 (JF s order).bind fun x1=>
 bif !x1 then
 some (0,9)
 else
 (RG order 0 0 s.Ins s.bJ s.aH s.All).bind fun x2=>
 some (x2,0)
theorem Zk (s:Shape) (order:List Int):∀r,Yb s order=some r→aj Tryz.prog 21 0 [AG Shape.D s,SL (cI .i64) order] [] (.tup [I r.1,I r.2]) []:=
 ak (enc:=fun r=>.tup [I r.1,I r.2]) (aP:=fun r=>[]) 10 (.call [] [] (jV s) .no fun x0=>.br 100000012 (.ret (0,1)) (.call [] [] (OX s order) .no fun x1=>.br 100000016 (.ret (0,9)) (.op 60002 (.ln (cI .i64) order) (.ps 1000001 [.k [2,6,21,22,23] [10]] (.lp1 0 (U7 order 0 0 s.Ins s.bJ s.aH s.All) fun x2=>.ret (x2,0)))))) Tryz.func21 (by kernel_rfl) (by kernel_rfl) (by kernel_rfl)
end Go.Ab.M
