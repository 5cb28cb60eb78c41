import Derived.Test.YtjboagogechleaaGreatTC
namespace Go.Ab.M
open Go.Proofs
set_option linter.unusedVariables false
set_option maxRecDepth 100000
structure Whole where
 Neg:Bool
 Mag:List Int
 deriving DecidableEq,Inhabited
abbrev Whole.D (x:Whole):List D:=[.v (.bool x.Neg),.sl (x.Mag.map (cI .u32))]
structure Link where
 From:Int
 To:Int
 N:Int
 D_:Int
 deriving DecidableEq,Inhabited
abbrev Link.D (x:Link):List D:=[.v (.int .u8 x.From),.v (.int .u8 x.To),.v (.int .i8 x.N),.v (.int .u8 x.D_)]
structure Edge where
 From:Int
 To:Int
 W:Rat
 deriving DecidableEq,Inhabited
abbrev Edge.D (x:Edge):List D:=[.v (.int .i64 x.From)]++[.v (.int .i64 x.To)]++Rat.D x.W
structure Graph where
 Ins:Int
 jB:Int
 aQ:Int
 aj:List Edge
 Gone:List Int
 deriving DecidableEq,Inhabited
abbrev Graph.D (x:Graph):List D:=[.v (.int .i64 x.Ins),.v (.int .i64 x.jB),.v (.int .i64 x.aQ),.sl (x.aj.map Edge.D),.sl (x.Gone.map (cI .i64))]
def DK (n1:Int) (out:List Int):St:=⟨15,0,[(0,NI .u64 n1),(3,iH 100001 out)],[(100001,je 1 (cI .u32) out)]⟩
def DU (out:List Int):St:=⟨15,0,[(3,iH 100001 out)],[(100001,je 1 (cI .u32) out)]⟩
def IW (n1:Int) (out:List Int):Option ((Int×List Int)⊕(List Int)):=
 bif decide (n1>0) then
 bif decide (0≤n1) then
 bif decide (0<4294967296) then
 bif decide (out.length+1≤2147483648) then
 bif decide (0≤n1) then
 bif decide (0<4294967296) then
 bif decide (n1≤Go.Ab.hi .u64) then
 some (.inl (n1/4294967296,out++[IntKind.wrap .u32 (n1%4294967296)]))
 else none
 else none
 else none
 else none
 else none
 else none
 else
 some (.inr out)
theorem SS:∀σ:Int×List Int,aN Tryz.prog (nav [1,1,0,0,0] (ah Tryz.f163)) (fun (σ:Int×List Int)=>DK σ.1 σ.2) (fun (_:List Int)=>(.exit 0)) (fun (y:List Int)=>DU y) σ (IW σ.1 σ.2)
 | (n1,[])=>aH 1010 (.br 100000005 (.op 30006 .wr (.op 30010 (.ap (cI .u32) [] [IntKind.wrap .u32 (n1%4294967296)] 1 fun _=>⟨rfl,rfl⟩) (.ps 1000003 [.k [0,3] [1011],.m 1011 100001] (.ret (.inl (n1/4294967296,[IntKind.wrap .u32 (n1%4294967296)])))))) (.ps 1000003 [.k [3] [100001]] (.ret (.inr [])))) (by kernel_rfl)
 | (n1,fO::fP)=>aH 1010 (.br 100000005 (.op 30006 .wr (.op 30010 (.ap (cI .u32) (fO::fP) [IntKind.wrap .u32 (n1%4294967296)] 1 fun _=>⟨rfl,rfl⟩) (.ps 1000003 [.k [0,3] [1011],.m 1011 100001] (.ret (.inl (n1/4294967296,(fO::fP)++[IntKind.wrap .u32 (n1%4294967296)])))))) (.ps 1000003 [.k [3] [100001]] (.ret (.inr (fO::fP))))) (by kernel_rfl)
def Rt (n1:Int) (out:List Int):Option (List Int):=aK (fun (σ:Int×List Int)=>IW σ.1 σ.2) FU (n1,out)
theorem Tn (n1:Int) (out:List Int):∀y:List Int,Rt n1 out=some y→Runs Tryz.prog (.loop (nav [1,1,0,0,0] (ah Tryz.f163))) (DK n1 out) ((.exit 0)) ((fun (y:List Int)=>DU y) y):=
 aX (head:=fun (σ:Int×List Int)=>DK σ.1 σ.2) (eo:=fun (_:List Int)=>(.exit 0)) (so:=fun (y:List Int)=>DU y) (SS) (fun _ h=>by cases h) FU (n1,out)
def Rl (n:Int):Option (List Int):=
 (Rt n []).bind fun x0=>
 some x0
theorem NW (n:Int):∀r,Rl n=some r→au Tryz.prog 163 0 [NI .u64 n] [] (SL (cI .u32) r) []:=
 ay (enc:=fun r=>SL (cI .u32) r) (aU:=fun r=>[]) 10 (.ps 1000001 [.k [0,3] [100001]] (.lp1 0 (Tn n []) fun x0=>.oz 1 3 100001 1 (cI .u32) x0 (.ps 1 [.k [3] []] (.ret x0)))) Tryz.func163 (by kernel_rfl) (by kernel_rfl) (by kernel_rfl)
def XW (n:Int):Option Whole:=
 bif decide (n≥0) then
 (Rl (IntKind.wrap .u64 n)).bind fun x0=>
 some (Whole.mk false x0)
 else
 (Rl (IntKind.wrap .u64 (0-(IntKind.wrap .u64 n)))).bind fun x0=>
 some (Whole.mk true x0)
theorem XT (n:Int):∀r,XW n=some r→au Tryz.prog 113 0 [I n] [] (AG Whole.D r) []:=
 ay (enc:=fun r=>AG Whole.D r) (aU:=fun r=>[]) 10 (.br 100000005 (.op 20002 .wr (.call [] [] (NW (IntKind.wrap .u64 n)) .no fun x0=>.ret (Whole.mk false x0))) (.op 30002 .wr (.call [] [] (NW (IntKind.wrap .u64 (0-(IntKind.wrap .u64 n)))) .no fun x0=>.ret (Whole.mk true x0)))) Tryz.func113 (by kernel_rfl) (by kernel_rfl) (by kernel_rfl)
def AV (l:List Int) (n:Nat) (i:Nat):St:=⟨19,0,[(0,SL (cI .u32) l),(3,I ((n:Nat):Int)),(4,I ((i:Nat):Int))],[]⟩
def Aq (l:List Int) (n:Nat):St:=⟨19,0,[(3,I ((n:Nat):Int))],[]⟩
def kT (l:List Int) (n:Nat) (i:Nat):Option ((Nat×Nat)⊕Nat):=
 bif decide (((i:Nat):Int)<((l.length:Nat):Int)) then
 bif decide (i<l.length) then
 bif (nth l i) != 0 then
 bif inK .i64 (((i:Nat):Int)+1) then
 bif inK .i64 (((i:Nat):Int)+1) then
 some (.inl (i+1,i+1))
 else none
 else none
 else
 bif inK .i64 (((i:Nat):Int)+1) then
 some (.inl (n,i+1))
 else none
 else none
 else
 some (.inr n)
theorem QW (l:List Int):∀σ:Nat×Nat,aN Tryz.prog (nav [1,1,0,1,0,0] (ah Tryz.f242)) (fun (σ:Nat×Nat)=>AV l σ.1 σ.2) (fun (_:Nat)=>(.exit 0)) (fun (y:Nat)=>Aq l y) σ (kT l σ.1 σ.2)
 | (n,i)=>aH 1010 (.op 30004 (.ln (cI .u32) l) (.br 100000008 (.op 50004 (.el (cI .u32) l (.up i)) (.br 100000015 (.ps 1000003 [.k [0,3,4] []] (.ret (.inl (i+1,i+1)))) (.ps 1000003 [.k [0,3,4] []] (.ret (.inl (n,i+1)))))) (.ps 1000003 [.k [3] []] (.ret (.inr n))))) (by kernel_rfl)
def BO (l:List Int) (n:Nat) (i:Nat):Option Nat:=aK (fun (σ:Nat×Nat)=>kT l σ.1 σ.2) FU (n,i)
theorem QY (l:List Int) (n:Nat) (i:Nat):∀y:Nat,BO l n i=some y→Runs Tryz.prog (.loop (nav [1,1,0,1,0,0] (ah Tryz.f242))) (AV l n i) ((.exit 0)) ((fun (y:Nat)=>Aq l y) y):=
 aX (head:=fun (σ:Nat×Nat)=>AV l σ.1 σ.2) (eo:=fun (_:Nat)=>(.exit 0)) (so:=fun (y:Nat)=>Aq l y) (QW l) (fun _ h=>by cases h) FU (n,i)
def IB (l:List Int):Option Int:=
 (BO l 0 0).bind fun x0=>
 some ((x0:Nat):Int)
theorem Vs (l:List Int):∀r,IB l=some r→au Tryz.prog 242 0 [SL (cI .u32) l] [] (I r) []:=
 ay (enc:=fun r=>I r) (aU:=fun r=>[]) 10 (.ps 1000001 [.k [0,3,4] []] (.lp1 0 (QY l 0 0) fun x0=>.ret ((x0:Nat):Int))) Tryz.func242 (by kernel_rfl) (by kernel_rfl) (by kernel_rfl)
def xk (a:List Int) (x0:Int) (out:List Int) (i:Nat):St:=⟨21,0,[(0,SL (cI .u32) a),(3,I x0),(4,iH 100002 out),(5,I ((i:Nat):Int))],[(100002,je 1 (cI .u32) out)]⟩
def xX (a:List Int) (x0:Int) (out:List Int):St:=⟨21,0,[(4,iH 100002 out)],[(100002,je 1 (cI .u32) out)]⟩
def lY (a:List Int) (x0:Int) (out:List Int) (i:Nat):Option ((List Int×Nat)⊕(List Int)):=
 bif decide (((i:Nat):Int)<x0) then
 bif decide (i<a.length) then
 bif decide (out.length+1≤2147483648) then
 bif inK .i64 (((i:Nat):Int)+1) then
 some (.inl (out++[nth a i],i+1))
 else none
 else none
 else none
 else
 some (.inr out)
theorem OH (a:List Int) (x0:Int):∀σ:List Int×Nat,aN Tryz.prog (nav [1,1,1,0,1,0,0] (ah Tryz.f210)) (fun (σ:List Int×Nat)=>xk a x0 σ.1 σ.2) (fun (_:List Int)=>(.exit 0)) (fun (y:List Int)=>xX a x0 y) σ (lY a x0 σ.1 σ.2)
 | ([],i)=>aH 1010 (.br 100000010 (.op 60006 (.el (cI .u32) a (.up i)) (.op 60012 (.ap (cI .u32) [] [nth a i] 1 fun _=>⟨rfl,rfl⟩) (.ps 1000003 [.k [0,3,4,5] [1011],.m 1011 100002] (.ret (.inl ([nth a i],i+1)))))) (.ps 1000003 [.k [4] [100002]] (.ret (.inr [])))) (by kernel_rfl)
 | (fO::fP,i)=>aH 1010 (.br 100000010 (.op 60006 (.el (cI .u32) a (.up i)) (.op 60012 (.ap (cI .u32) (fO::fP) [nth a i] 1 fun _=>⟨rfl,rfl⟩) (.ps 1000003 [.k [0,3,4,5] [1011],.m 1011 100002] (.ret (.inl ((fO::fP)++[nth a i],i+1)))))) (.ps 1000003 [.k [4] [100002]] (.ret (.inr (fO::fP))))) (by kernel_rfl)
def yP (a:List Int) (x0:Int) (out:List Int) (i:Nat):Option (List Int):=aK (fun (σ:List Int×Nat)=>lY a x0 σ.1 σ.2) FU (out,i)
theorem O6 (a:List Int) (x0:Int) (out:List Int) (i:Nat):∀y:List Int,yP a x0 out i=some y→Runs Tryz.prog (.loop (nav [1,1,1,0,1,0,0] (ah Tryz.f210))) (xk a x0 out i) ((.exit 0)) ((fun (y:List Int)=>xX a x0 y) y):=
 aX (head:=fun (σ:List Int×Nat)=>xk a x0 σ.1 σ.2) (eo:=fun (_:List Int)=>(.exit 0)) (so:=fun (y:List Int)=>xX a x0 y) (OH a x0) (fun _ h=>by cases h) FU (out,i)
def gI (a:List Int):Option (List Int):=
 (IB a).bind fun x0=>
 (yP a x0 [] 0).bind fun x1=>
 some x1
theorem eU (a:List Int):∀r,gI a=some r→au Tryz.prog 210 0 [SL (cI .u32) a] [] (SL (cI .u32) r) []:=
 ay (enc:=fun r=>SL (cI .u32) r) (aU:=fun r=>[]) 10 (.call [] [] (Vs a) .no fun x0=>.ps 1000001 [.k [0,3,4,5] [100002]] (.lp1 0 (O6 a x0 [] 0) fun x1=>.oz 1 4 100002 1 (cI .u32) x1 (.ps 1 [.k [4] []] (.ret x1)))) Tryz.func210 (by kernel_rfl) (by kernel_rfl) (by kernel_rfl)
def BF (a:List Int) (w:Int) (out:List Int) (carry:Int) (i:Nat):St:=⟨44,0,[(0,SL (cI .u32) a),(1,NI .u32 w),(7,iH 100003 out),(8,NI .u64 carry),(9,I ((i:Nat):Int))],[(100003,je 1 (cI .u32) out)]⟩
def zD (a:List Int) (w:Int) (out:List Int) (carry:Int):St:=⟨44,0,[(7,iH 100003 out),(8,NI .u64 carry)],[(100003,je 1 (cI .u32) out)]⟩
def mW (a:List Int) (w:Int) (out:List Int) (carry:Int) (i:Nat):Option ((List Int×Int×Nat)⊕(List Int×Int)):=
 bif decide (((i:Nat):Int)<((a.length:Nat):Int)) then
 bif decide (i<a.length) then
 bif inK .u64 (nth a i) then
 bif inK .u64 w then
 bif decide (0≤IntKind.wrap .u64 ((IntKind.wrap .u64 ((nth a i)*w))+carry)) then
 bif decide (0<4294967296) then
 bif decide (out.length+1≤2147483648) then
 bif decide (0≤IntKind.wrap .u64 ((IntKind.wrap .u64 ((nth a i)*w))+carry)) then
 bif decide (0<4294967296) then
 bif decide (IntKind.wrap .u64 ((IntKind.wrap .u64 ((nth a i)*w))+carry)≤Go.Ab.hi .u64) then
 bif inK .i64 (((i:Nat):Int)+1) then
 some (.inl (out++[IntKind.wrap .u32 ((IntKind.wrap .u64 ((IntKind.wrap .u64 ((nth a i)*w))+carry))%4294967296)],(IntKind.wrap .u64 ((IntKind.wrap .u64 ((nth a i)*w))+carry))/4294967296,i+1))
 else none
 else none
 else none
 else none
 else none
 else none
 else none
 else none
 else none
 else none
 else
 some (.inr (out,carry))
theorem QX (a:List Int) (w:Int):∀σ:List Int×Int×Nat,aN Tryz.prog (nav [1,1,1,0,1,0,0] (ah Tryz.f171)) (fun (σ:List Int×Int×Nat)=>BF a w σ.1 σ.2.1 σ.2.2) (fun (_:List Int×Int)=>(.exit 0)) (fun (y:List Int×Int)=>zD a w y.1 y.2) σ (mW a w σ.1 σ.2.1 σ.2.2)
 | ([],carry,i)=>aH 1010 (.op 40004 (.ln (cI .u32) a) (.br 100000016 (.op 60004 (.el (cI .u32) a (.up i)) (.op 70006 .wr (.op 70010 (.ap (cI .u32) [] [IntKind.wrap .u32 ((IntKind.wrap .u64 ((IntKind.wrap .u64 ((nth a i)*w))+carry))%4294967296)] 1 fun _=>⟨rfl,rfl⟩) (.ps 1000003 [.k [0,1,7,8,9] [1011],.m 1011 100003] (.ret (.inl ([IntKind.wrap .u32 ((IntKind.wrap .u64 ((IntKind.wrap .u64 ((nth a i)*w))+carry))%4294967296)],(IntKind.wrap .u64 ((IntKind.wrap .u64 ((nth a i)*w))+carry))/4294967296,i+1))))))) (.ps 1000003 [.k [7,8] [100003]] (.ret (.inr ([],carry)))))) (by kernel_rfl)
 | (fO::fP,carry,i)=>aH 1010 (.op 40004 (.ln (cI .u32) a) (.br 100000016 (.op 60004 (.el (cI .u32) a (.up i)) (.op 70006 .wr (.op 70010 (.ap (cI .u32) (fO::fP) [IntKind.wrap .u32 ((IntKind.wrap .u64 ((IntKind.wrap .u64 ((nth a i)*w))+carry))%4294967296)] 1 fun _=>⟨rfl,rfl⟩) (.ps 1000003 [.k [0,1,7,8,9] [1011],.m 1011 100003] (.ret (.inl ((fO::fP)++[IntKind.wrap .u32 ((IntKind.wrap .u64 ((IntKind.wrap .u64 ((nth a i)*w))+carry))%4294967296)],(IntKind.wrap .u64 ((IntKind.wrap .u64 ((nth a i)*w))+carry))/4294967296,i+1))))))) (.ps 1000003 [.k [7,8] [100003]] (.ret (.inr ((fO::fP),carry)))))) (by kernel_rfl)
def CY (a:List Int) (w:Int) (out:List Int) (carry:Int) (i:Nat):Option (List Int×Int):=aK (fun (σ:List Int×Int×Nat)=>mW a w σ.1 σ.2.1 σ.2.2) FU (out,carry,i)
theorem RJ (a:List Int) (w:Int) (out:List Int) (carry:Int) (i:Nat):∀y:List Int×Int,CY a w out carry i=some y→Runs Tryz.prog (.loop (nav [1,1,1,0,1,0,0] (ah Tryz.f171))) (BF a w out carry i) ((.exit 0)) ((fun (y:List Int×Int)=>zD a w y.1 y.2) y):=
 aX (head:=fun (σ:List Int×Int×Nat)=>BF a w σ.1 σ.2.1 σ.2.2) (eo:=fun (_:List Int×Int)=>(.exit 0)) (so:=fun (y:List Int×Int)=>zD a w y.1 y.2) (QX a w) (fun _ h=>by cases h) FU (out,carry,i)
def iZ (a:List Int) (w:Int) (c:Int):Option (List Int):=
 bif inK .u64 c then
 (CY a w [] c 0).bind fun x0=>
 bif x0.1.isEmpty then
 (gI [IntKind.wrap .u32 x0.2]).bind fun x1=>
 some x1
 else
 bif decide (x0.1.length+1≤2147483648) then
 (gI (x0.1++[IntKind.wrap .u32 x0.2])).bind fun x1=>
 some x1
 else none
 else none
theorem rG (a:List Int) (w:Int) (c:Int):∀r,iZ a w c=some r→au Tryz.prog 171 0 [SL (cI .u32) a,NI .u32 w,NI .u32 c] [] (SL (cI .u32) r) []:=
 ay (enc:=fun r=>SL (cI .u32) r) (aU:=fun r=>[]) 10 (.ps 1000001 [.k [0,1,7,8,9] [100003]] (.lp1 0 (RJ a w [] c 0) fun x0=>.cl 1 7 100003 1 (cI .u32) x0.1 (.ps 1 [.k [7,8] []] (.op 90004 .wr (.op 90008 (.ap (cI .u32) [] [IntKind.wrap .u32 x0.2] 1 fun _=>⟨rfl,rfl⟩) (.call [] [] (eU [IntKind.wrap .u32 x0.2]) .no fun x1=>.ret x1)))) (.ps 1 [.k [7,8] [100003]] (.op 90004 .wr (.op 90008 (.ap (cI .u32) x0.1 [IntKind.wrap .u32 x0.2] 1 fun _=>⟨rfl,rfl⟩) (.call [] [] (eU (x0.1++[IntKind.wrap .u32 x0.2])) .no fun x1=>.ret x1)))))) Tryz.func171 (by kernel_rfl) (by kernel_rfl) (by kernel_rfl)
def IE (a:List Int) (i:Int):Option Int:=
 bif decide (0≤i) then
 bif decide (0<32) then
 bif decide (i≤Go.Ab.hi .i64) then
 bif decide (0≤i/32) then
 bif decide ((i/32).toNat<a.length) then
 bif decide (0≤i) then
 bif decide (0<32) then
 bif decide (0≤i%32) then
 some (ad6 .u32 (lV .u32 (nth a ((i/32).toNat)) (i%32)) 1)
 else none
 else none
 else none
 else none
 else none
 else none
 else none
 else none
theorem Wl (a:List Int) (i:Int):∀r,IE a i=some r→au Tryz.prog 245 0 [SL (cI .u32) a,I i] [] (NI .u32 r) []:=
 ay (enc:=fun r=>NI .u32 r) (aU:=fun r=>[]) 10 (.op 10006 (.el (cI .u32) a .dn) (.ret (ad6 .u32 (lV .u32 (nth a ((i/32).toNat)) (i%32)) 1))) Tryz.func245 (by kernel_rfl) (by kernel_rfl) (by kernel_rfl)
def lW (a:List Int) (i:Int):Option Int:=
 bif decide (i<0) then
 some 0
 else
 bif decide (i≥((a.length:Nat):Int)) then
 some 0
 else
 bif decide (0≤i) then
 bif decide (i.toNat<a.length) then
 bif inK .u64 (nth a i.toNat) then
 some (nth a i.toNat)
 else none
 else none
 else none
theorem fE (a:List Int) (i:Int):∀r,lW a i=some r→au Tryz.prog 217 0 [SL (cI .u32) a,I i] [] (NI .u64 r) []:=
 ay (enc:=fun r=>NI .u64 r) (aU:=fun r=>[]) 10 (.br 10006 (.ret 0) (.op 10010 (.ln (cI .u32) a) (.br 100000012 (.ret 0) (.op 30004 (.el (cI .u32) a .dn) (.ret (nth a i.toNat)))))) Tryz.func217 (by kernel_rfl) (by kernel_rfl) (by kernel_rfl)
def zK (a:List Int) (b:List Int) (i:Int):St:=⟨32,0,[(0,SL (cI .u32) a),(1,SL (cI .u32) b),(6,I i)],[]⟩
def zX (a:List Int) (b:List Int) (i:Int):St:=⟨32,0,[(4,I i)],[]⟩
def zA (a:List Int) (b:List Int):St:=⟨32,0,[],[]⟩
def kW (a:List Int) (b:List Int) (i:Int):Option (Int⊕(Int⊕Unit)):=
 bif decide (i≥0) then
 (lW a i).bind fun x0=>
 (lW b i).bind fun x1=>
 bif decide (x0<x1) then
 some (.inr (.inl (-1)))
 else
 (lW a i).bind fun x2=>
 (lW b i).bind fun x3=>
 bif decide (x2>x3) then
 some (.inr (.inl 1))
 else
 bif inK .i64 (i-1) then
 some (.inl (i-1))
 else none
 else
 some (.inr (.inr ()))
theorem Ri (a:List Int) (b:List Int):∀σ:Int,aN Tryz.prog (nav [1,1,0,1,0,0] (ah Tryz.f174)) (fun (σ:Int)=>zK a b σ) (fun (y:Int⊕Unit)=>aC y (fun _=>.ret) (fun _=>(.exit 0))) (fun (y:Int⊕Unit)=>aC y (fun y=>zX a b y) (fun y=>zA a b)) σ (kW a b σ)
 | i=>aH 1010 (.br 100000015 (.call [] [] (fE a i) .no fun x0=>.call [] [] (fE b i) .no fun x1=>.br 100000024 (.ps 1000003 [.k [4] []] (.ret (.inr (.inl (-1))))) (.call [] [] (fE a i) .no fun x2=>.call [] [] (fE b i) .no fun x3=>.br 100000031 (.ps 1000003 [.k [4] []] (.ret (.inr (.inl 1)))) (.ps 1000003 [.k [0,1,6] []] (.ret (.inl (i-1)))))) (.ps 1000003 [.k [] []] (.ret (.inr (.inr ()))))) (by kernel_rfl)
def GY (a:List Int) (b:List Int) (i:Int):Option (Int⊕Unit):=aK (fun (σ:Int)=>kW a b σ) FU i
theorem Qm (a:List Int) (b:List Int) (i:Int):∀y:Int⊕Unit,GY a b i=some y→Runs Tryz.prog (.loop (nav [1,1,0,1,0,0] (ah Tryz.f174))) (zK a b i) (aC y (fun _=>.ret) (fun _=>(.exit 0))) ((fun (y:Int⊕Unit)=>aC y (fun y=>zX a b y) (fun y=>zA a b)) y):=
 aX (head:=fun (σ:Int)=>zK a b σ) (eo:=fun (y:Int⊕Unit)=>aC y (fun _=>.ret) (fun _=>(.exit 0))) (so:=fun (y:Int⊕Unit)=>aC y (fun y=>zX a b y) (fun y=>zA a b)) (Ri a b) (fun y h=>by rcases y with y | y<;>cases h) FU i
def qC (a:List Int) (b:List Int):Option Int:=
 bif inK .i64 ((mxI ((a.length:Nat):Int) ((b.length:Nat):Int))-1) then
 (GY a b ((mxI ((a.length:Nat):Int) ((b.length:Nat):Int))-1)).bind fun y_=>aC y_ (fun x0=>
 some x0)
 (fun x1=>
 some 0)
 else none
theorem rD (a:List Int) (b:List Int):∀r,qC a b=some r→au Tryz.prog 174 0 [SL (cI .u32) a,SL (cI .u32) b] [] (I r) []:=
 ay (enc:=fun r=>I r) (aU:=fun r=>[]) 10 (.op 10002 (.ln (cI .u32) a) (.op 10006 (.ln (cI .u32) b) (.ps 1000001 [.k [0,1,6] []] (.lp2 0 (Qm a b ((mxI ((a.length:Nat):Int) ((b.length:Nat):Int))-1)) (fun x0=>.ret x0) (fun x1=>.ret 0))))) Tryz.func174 (by kernel_rfl) (by kernel_rfl) (by kernel_rfl)
def Aj (a:List Int) (b:List Int) (out:List Int) (borrow:Int) (i:Nat):St:=⟨41,0,[(0,SL (cI .u32) a),(1,SL (cI .u32) b),(6,iH 100004 out),(7,NI .u64 borrow),(8,I ((i:Nat):Int))],[(100004,je 1 (cI .u32) out)]⟩
def AZ (a:List Int) (b:List Int) (out:List Int):St:=⟨41,0,[(6,iH 100004 out)],[(100004,je 1 (cI .u32) out)]⟩
def nP (a:List Int) (b:List Int) (out:List Int) (borrow:Int) (i:Nat):Option ((List Int×Int×Nat)⊕(List Int)):=
 bif decide (((i:Nat):Int)<((a.length:Nat):Int)) then
 (lW a ((i:Nat):Int)).bind fun x1=>
 (lW b ((i:Nat):Int)).bind fun x2=>
 bif decide (0≤IntKind.wrap .u64 ((IntKind.wrap .u64 ((IntKind.wrap .u64 (4294967296+x1))-x2))-borrow)) then
 bif decide (0<4294967296) then
 bif decide (out.length+1≤2147483648) then
 bif decide (0≤IntKind.wrap .u64 ((IntKind.wrap .u64 ((IntKind.wrap .u64 (4294967296+x1))-x2))-borrow)) then
 bif decide (0<4294967296) then
 bif decide (IntKind.wrap .u64 ((IntKind.wrap .u64 ((IntKind.wrap .u64 (4294967296+x1))-x2))-borrow)≤Go.Ab.hi .u64) then
 bif inK .i64 (((i:Nat):Int)+1) then
 some (.inl (out++[IntKind.wrap .u32 ((IntKind.wrap .u64 ((IntKind.wrap .u64 ((IntKind.wrap .u64 (4294967296+x1))-x2))-borrow))%4294967296)],IntKind.wrap .u64 (1-((IntKind.wrap .u64 ((IntKind.wrap .u64 ((IntKind.wrap .u64 (4294967296+x1))-x2))-borrow))/4294967296)),i+1))
 else none
 else none
 else none
 else none
 else none
 else none
 else none
 else
 some (.inr out)
theorem RG (a:List Int) (b:List Int):∀σ:List Int×Int×Nat,aN Tryz.prog (nav [1,1,1,1,0,1,0,0] (ah Tryz.f175)) (fun (σ:List Int×Int×Nat)=>Aj a b σ.1 σ.2.1 σ.2.2) (fun (_:List Int)=>(.exit 0)) (fun (y:List Int)=>AZ a b y) σ (nP a b σ.1 σ.2.1 σ.2.2)
 | ([],borrow,i)=>aH 1010 (.op 60004 (.ln (cI .u32) a) (.br 100000017 (.call [] [] (fE a ((i:Nat):Int)) .no fun x1=>.call [] [] (fE b ((i:Nat):Int)) .no fun x2=>.op 90006 .wr (.op 90010 (.ap (cI .u32) [] [IntKind.wrap .u32 ((IntKind.wrap .u64 ((IntKind.wrap .u64 ((IntKind.wrap .u64 (4294967296+x1))-x2))-borrow))%4294967296)] 1 fun _=>⟨rfl,rfl⟩) (.ps 1000003 [.k [0,1,6,7,8] [1011],.m 1011 100004] (.ret (.inl ([IntKind.wrap .u32 ((IntKind.wrap .u64 ((IntKind.wrap .u64 ((IntKind.wrap .u64 (4294967296+x1))-x2))-borrow))%4294967296)],IntKind.wrap .u64 (1-((IntKind.wrap .u64 ((IntKind.wrap .u64 ((IntKind.wrap .u64 (4294967296+x1))-x2))-borrow))/4294967296)),i+1)))))) (.ps 1000003 [.k [6] [100004]] (.ret (.inr []))))) (by kernel_rfl)
 | (fO::fP,borrow,i)=>aH 1010 (.op 60004 (.ln (cI .u32) a) (.br 100000017 (.call [] [] (fE a ((i:Nat):Int)) .no fun x1=>.call [] [] (fE b ((i:Nat):Int)) .no fun x2=>.op 90006 .wr (.op 90010 (.ap (cI .u32) (fO::fP) [IntKind.wrap .u32 ((IntKind.wrap .u64 ((IntKind.wrap .u64 ((IntKind.wrap .u64 (4294967296+x1))-x2))-borrow))%4294967296)] 1 fun _=>⟨rfl,rfl⟩) (.ps 1000003 [.k [0,1,6,7,8] [1011],.m 1011 100004] (.ret (.inl ((fO::fP)++[IntKind.wrap .u32 ((IntKind.wrap .u64 ((IntKind.wrap .u64 ((IntKind.wrap .u64 (4294967296+x1))-x2))-borrow))%4294967296)],IntKind.wrap .u64 (1-((IntKind.wrap .u64 ((IntKind.wrap .u64 ((IntKind.wrap .u64 (4294967296+x1))-x2))-borrow))/4294967296)),i+1)))))) (.ps 1000003 [.k [6] [100004]] (.ret (.inr (fO::fP)))))) (by kernel_rfl)
def Dp (a:List Int) (b:List Int) (out:List Int) (borrow:Int) (i:Nat):Option (List Int):=aK (fun (σ:List Int×Int×Nat)=>nP a b σ.1 σ.2.1 σ.2.2) FU (out,borrow,i)
theorem Sv (a:List Int) (b:List Int) (out:List Int) (borrow:Int) (i:Nat):∀y:List Int,Dp a b out borrow i=some y→Runs Tryz.prog (.loop (nav [1,1,1,1,0,1,0,0] (ah Tryz.f175))) (Aj a b out borrow i) ((.exit 0)) ((fun (y:List Int)=>AZ a b y) y):=
 aX (head:=fun (σ:List Int×Int×Nat)=>Aj a b σ.1 σ.2.1 σ.2.2) (eo:=fun (_:List Int)=>(.exit 0)) (so:=fun (y:List Int)=>AZ a b y) (RG a b) (fun _ h=>by cases h) FU (out,borrow,i)
def qw (a:List Int) (b:List Int):Option (List Int×Bool):=
 (qC a b).bind fun x0=>
 bif decide (x0<0) then
 some ([],false)
 else
 (Dp a b [] 0 0).bind fun x1=>
 (gI x1).bind fun x2=>
 some (x2,true)
theorem sF (a:List Int) (b:List Int):∀r,qw a b=some r→au Tryz.prog 175 0 [SL (cI .u32) a,SL (cI .u32) b] [] (.tup [SL (cI .u32) r.1,B r.2]) []:=
 ay (enc:=fun r=>.tup [SL (cI .u32) r.1,B r.2]) (aU:=fun r=>[]) 10 (.call [] [] (rD a b) .no fun x0=>.br 100000013 (.ps 1000003 [.n 4] (.ret ([],false))) (.ps 1000001 [.k [0,1,6,7,8] [100004]] (.lp1 0 (Sv a b [] 0 0) fun x1=>.oz 1 6 100004 1 (cI .u32) x1 (.ps 1 [.k [6] []] (.call [] [] (eU x1) .no fun x2=>.ret (x2,true)))))) Tryz.func175 (by kernel_rfl) (by kernel_rfl) (by kernel_rfl)
def BD (a:List Int) (x0:List Int) (q:List Int) (r:List Int) (i:Int):St:=⟨45,0,[(0,SL (cI .u32) a),(7,SL (cI .u32) x0),(8,SL (cI .u32) q),(9,SL (cI .u32) r),(10,I i)],[]⟩
def zF (a:List Int) (x0:List Int) (q:List Int) (r:List Int):St:=⟨45,0,[(8,SL (cI .u32) q),(9,SL (cI .u32) r)],[]⟩
def jd (a:List Int) (x0:List Int) (q:List Int) (r:List Int) (i:Int):Option ((List Int×List Int×Int)⊕(List Int×List Int)):=
 bif decide (i≥0) then
 (iZ q 2 0).bind fun x1=>
 (IE a i).bind fun x2=>
 (iZ r 2 x2).bind fun x3=>
 (qC x3 x0).bind fun x4=>
 bif decide (x4≥0) then
 (qw x3 x0).bind fun x5=>
 (iZ x1 1 1).bind fun x6=>
 bif inK .i64 (i-1) then
 some (.inl (x6,x5.1,i-1))
 else none
 else
 bif inK .i64 (i-1) then
 some (.inl (x1,x3,i-1))
 else none
 else
 some (.inr (q,r))
theorem SA (a:List Int) (x0:List Int):∀σ:List Int×List Int×Int,aN Tryz.prog (nav [1,1,1,1,1,0,1,0,0] (ah Tryz.f212)) (fun (σ:List Int×List Int×Int)=>BD a x0 σ.1 σ.2.1 σ.2.2) (fun (_:List Int×List Int)=>(.exit 0)) (fun (y:List Int×List Int)=>zF a x0 y.1 y.2) σ (jd a x0 σ.1 σ.2.1 σ.2.2)
 | (q,r,i)=>aH 1010 (.br 100000021 (.call [] [] (rG q 2 0) .no fun x1=>.call [] [] (Wl a i) .no fun x2=>.call [] [] (rG r 2 x2) .no fun x3=>.call [] [] (rD x3 x0) .no fun x4=>.br 100000034 (.call [] [] (sF x3 x0) .no fun x5=>.call [] [] (rG x1 1 1) .no fun x6=>.ps 1000003 [.k [0,7,8,9,10] []] (.ret (.inl (x6,x5.1,i-1)))) (.ps 1000003 [.k [0,7,8,9,10] []] (.ret (.inl (x1,x3,i-1))))) (.ps 1000003 [.k [8,9] []] (.ret (.inr (q,r))))) (by kernel_rfl)
def Dq (a:List Int) (x0:List Int) (q:List Int) (r:List Int) (i:Int):Option (List Int×List Int):=aK (fun (σ:List Int×List Int×Int)=>jd a x0 σ.1 σ.2.1 σ.2.2) FU (q,r,i)
theorem SH (a:List Int) (x0:List Int) (q:List Int) (r:List Int) (i:Int):∀y:List Int×List Int,Dq a x0 q r i=some y→Runs Tryz.prog (.loop (nav [1,1,1,1,1,0,1,0,0] (ah Tryz.f212))) (BD a x0 q r i) ((.exit 0)) ((fun (y:List Int×List Int)=>zF a x0 y.1 y.2) y):=
 aX (head:=fun (σ:List Int×List Int×Int)=>BD a x0 σ.1 σ.2.1 σ.2.2) (eo:=fun (_:List Int×List Int)=>(.exit 0)) (so:=fun (y:List Int×List Int)=>zF a x0 y.1 y.2) (SA a x0) (fun _ h=>by cases h) FU (q,r,i)
def zu (a:List Int) (b:List Int):Option (List Int×List Int×Bool):=
 (gI b).bind fun x0=>
 bif ((x0.length:Nat):Int)==0 then
 some ([],[],false)
 else
 bif inK .i64 (32*((a.length:Nat):Int)) then
 bif inK .i64 ((32*((a.length:Nat):Int))-1) then
 (Dq a x0 [] [] ((32*((a.length:Nat):Int))-1)).bind fun x1=>
 some (x1.1,x1.2,true)
 else none
 else none
theorem FH (a:List Int) (b:List Int):∀r,zu a b=some r→au Tryz.prog 212 0 [SL (cI .u32) a,SL (cI .u32) b] [] (.tup [SL (cI .u32) r.1,SL (cI .u32) r.2.1,B r.2.2]) []:=
 ay (enc:=fun r=>.tup [SL (cI .u32) r.1,SL (cI .u32) r.2.1,B r.2.2]) (aU:=fun r=>[]) 10 (.call [] [] (eU b) .no fun x0=>.op 20002 (.ln (cI .u32) x0) (.br 100000015 (.ps 1000003 [.n 4,.n 5] (.ret ([],[],false))) (.op 60002 (.ln (cI .u32) a) (.ps 1000001 [.n 8,.n 9,.k [0,7,8,9,10] []] (.lp1 0 (SH a x0 [] [] ((32*((a.length:Nat):Int))-1)) fun x1=>.ret (x1.1,x1.2,true)))))) Tryz.func212 (by kernel_rfl) (by kernel_rfl) (by kernel_rfl)
def qp (a:List Int) (d:Int):Option (List Int×Int×Bool):=
 (zu a [d]).bind fun x0=>
 bif ((x0.2.1.length:Nat):Int)==0 then
 some (x0.1,0,x0.2.2)
 else
 bif decide (0<x0.2.1.length) then
 some (x0.1,nth x0.2.1 0,x0.2.2)
 else none
theorem Qc (a:List Int) (d:Int):∀r,qp a d=some r→au Tryz.prog 264 0 [SL (cI .u32) a,NI .u32 d] [] (.tup [SL (cI .u32) r.1,NI .u32 r.2.1,B r.2.2]) []:=
 ay (enc:=fun r=>.tup [SL (cI .u32) r.1,NI .u32 r.2.1,B r.2.2]) (aU:=fun r=>[]) 10 (.call [] [] (FH a [d]) .no fun x0=>.op 20002 (.ln (cI .u32) x0.2.1) (.br 100000020 (.ret (x0.1,0,x0.2.2)) (.op 40004 (.el (cI .u32) x0.2.1 (.up 0)) (.ret (x0.1,nth x0.2.1 0,x0.2.2))))) Tryz.func264 (by kernel_rfl) (by kernel_rfl) (by kernel_rfl)
def zT (a1:List Int) (n:Nat):St:=⟨25,0,[(0,SL (cI .u32) a1),(4,I ((n:Nat):Int))],[]⟩
def Bq (a1:List Int) (n:Nat):St:=⟨25,0,[(0,SL (cI .u32) a1),(4,I ((n:Nat):Int))],[]⟩
def jl (a1:List Int) (n:Nat):Option ((List Int×Nat)⊕(List Int×Nat)):=
 bif decide (((a1.length:Nat):Int)>0) then
 bif decide (0<a1.length) then
 bif decide (0≤nth a1 0) then
 bif decide (0<2) then
 bif ((nth a1 0)%2)==0 then
 (qp a1 2).bind fun x0=>
 bif inK .i64 (((n:Nat):Int)+1) then
 some (.inl (x0.1,n+1))
 else none
 else
 some (.inr (a1,n))
 else none
 else none
 else none
 else
 some (.inr (a1,n))
theorem QF:∀σ:List Int×Nat,aN Tryz.prog (nav [1,1,0,0,0] (ah Tryz.f243)) (fun (σ:List Int×Nat)=>zT σ.1 σ.2) (fun (_:List Int×Nat)=>(.exit 0)) (fun (y:List Int×Nat)=>Bq y.1 y.2) σ (jl σ.1 σ.2)
 | (a1,n)=>aH 1010 (.op 20002 (.ln (cI .u32) a1) (.br 20008 (.op 20010 (.el (cI .u32) a1 (.up 0)) (.br 100000014 (.call [] [] (Qc a1 2) .no fun x0=>.ps 1000003 [.k [0,4] []] (.ret (.inl (x0.1,n+1)))) (.ps 1000003 [.k [0,4] []] (.ret (.inr (a1,n)))))) (.ps 1000003 [.k [0,4] []] (.ret (.inr (a1,n)))))) (by kernel_rfl)
def Ht (a1:List Int) (n:Nat):Option (List Int×Nat):=aK (fun (σ:List Int×Nat)=>jl σ.1 σ.2) FU (a1,n)
theorem Rf (a1:List Int) (n:Nat):∀y:List Int×Nat,Ht a1 n=some y→Runs Tryz.prog (.loop (nav [1,1,0,0,0] (ah Tryz.f243))) (zT a1 n) ((.exit 0)) ((fun (y:List Int×Nat)=>Bq y.1 y.2) y):=
 aX (head:=fun (σ:List Int×Nat)=>zT σ.1 σ.2) (eo:=fun (_:List Int×Nat)=>(.exit 0)) (so:=fun (y:List Int×Nat)=>Bq y.1 y.2) (QF) (fun _ h=>by cases h) FU (a1,n)
def uj (a:List Int):Option (List Int×Int):=
 (Ht a 0).bind fun x0=>
 some (x0.1,((x0.2:Nat):Int))
theorem yX (a:List Int):∀r,uj a=some r→au Tryz.prog 243 0 [SL (cI .u32) a] [] (.tup [SL (cI .u32) r.1,I r.2]) []:=
 ay (enc:=fun r=>.tup [SL (cI .u32) r.1,I r.2]) (aU:=fun r=>[]) 10 (.ps 1000001 [.k [0,4] []] (.lp1 0 (Rf a 0) fun x0=>.ret (x0.1,((x0.2:Nat):Int)))) Tryz.func243 (by kernel_rfl) (by kernel_rfl) (by kernel_rfl)
def Bc (x2:List Int×Int) (x3:List Int×Int) (x:List Int) (y1:List Int):St:=⟨59,0,[(5,SL (cI .u32) x),(6,SL (cI .u32) y1),(7,I x2.2),(8,I x3.2)],[]⟩
def zI (x2:List Int×Int) (x3:List Int×Int) (x:List Int):St:=⟨59,0,[(5,SL (cI .u32) x),(7,I x2.2),(8,I x3.2)],[]⟩
def kJ (x2:List Int×Int) (x3:List Int×Int) (x:List Int) (y1:List Int):Option ((List Int×List Int)⊕(List Int)):=
 (qC x y1).bind fun x4=>
 bif x4 != 0 then
 (qC x y1).bind fun x5=>
 bif decide (x5<0) then
 (qw y1 x).bind fun x6=>
 (uj x6.1).bind fun x7=>
 some (.inl (x7.1,x))
 else
 (qw x y1).bind fun x6=>
 (uj x6.1).bind fun x7=>
 some (.inl (x7.1,y1))
 else
 some (.inr x)
theorem P5 (x2:List Int×Int) (x3:List Int×Int):∀σ:List Int×List Int,aN Tryz.prog (nav [1,1,1,1,1,1,1,0,0,0] (ah Tryz.f211)) (fun (σ:List Int×List Int)=>Bc x2 x3 σ.1 σ.2) (fun (_:List Int)=>(.exit 0)) (fun (y:List Int)=>zI x2 x3 y) σ (kJ x2 x3 σ.1 σ.2)
 | (x,y1)=>aH 1010 (.call [] [] (rD x y1) .no fun x4=>.br 100000035 (.call [] [] (rD x y1) .no fun x5=>.br 100000039 (.call [] [] (sF y1 x) .no fun x6=>.call [] [] (yX x6.1) .no fun x7=>.ps 1000003 [.k [5,6,7,8] []] (.ret (.inl (x7.1,x)))) (.call [] [] (sF x y1) .no fun x6=>.call [] [] (yX x6.1) .no fun x7=>.ps 1000003 [.k [5,6,7,8] []] (.ret (.inl (x7.1,y1))))) (.ps 1000003 [.k [5,7,8] []] (.ret (.inr x)))) (by kernel_rfl)
def Hr (x2:List Int×Int) (x3:List Int×Int) (x:List Int) (y1:List Int):Option (List Int):=aK (fun (σ:List Int×List Int)=>kJ x2 x3 σ.1 σ.2) FU (x,y1)
theorem P6 (x2:List Int×Int) (x3:List Int×Int) (x:List Int) (y1:List Int):∀y:List Int,Hr x2 x3 x y1=some y→Runs Tryz.prog (.loop (nav [1,1,1,1,1,1,1,0,0,0] (ah Tryz.f211))) (Bc x2 x3 x y1) ((.exit 0)) ((fun (y:List Int)=>zI x2 x3 y) y):=
 aX (head:=fun (σ:List Int×List Int)=>Bc x2 x3 σ.1 σ.2) (eo:=fun (_:List Int)=>(.exit 0)) (so:=fun (y:List Int)=>zI x2 x3 y) (P5 x2 x3) (fun _ h=>by cases h) FU (x,y1)
def uw (n:Int) (out:List Int) (i:Nat):St:=⟨26,0,[(1,I n),(5,SL (cI .u32) out),(6,I ((i:Nat):Int))],[]⟩
def uz (n:Int) (out:List Int):St:=⟨26,0,[(5,SL (cI .u32) out)],[]⟩
def kK (n:Int) (out:List Int) (i:Nat):Option ((List Int×Nat)⊕(List Int)):=
 bif decide (((i:Nat):Int)<n) then
 bif decide (((i:Nat):Int)<100000) then
 bif decide (((out.length:Nat):Int)>0) then
 (iZ out 2 0).bind fun x1=>
 bif inK .i64 (((i:Nat):Int)+1) then
 some (.inl (x1,i+1))
 else none
 else
 some (.inr out)
 else
 some (.inr out)
 else
 some (.inr out)
theorem NG (n:Int):∀σ:List Int×Nat,aN Tryz.prog (nav [1,1,0,1,0,0] (ah Tryz.f244)) (fun (σ:List Int×Nat)=>uw n σ.1 σ.2) (fun (_:List Int)=>(.exit 0)) (fun (y:List Int)=>uz n y) σ (kK n σ.1 σ.2)
 | (out,i)=>aH 1010 (.br 30008 (.br 30016 (.op 30018 (.ln (cI .u32) out) (.br 100000020 (.call [] [] (rG out 2 0) .no fun x1=>.ps 1000003 [.k [1,5,6] []] (.ret (.inl (x1,i+1)))) (.ps 1000003 [.k [5] []] (.ret (.inr out))))) (.ps 1000003 [.k [5] []] (.ret (.inr out)))) (.ps 1000003 [.k [5] []] (.ret (.inr out)))) (by kernel_rfl)
def vI (n:Int) (out:List Int) (i:Nat):Option (List Int):=aK (fun (σ:List Int×Nat)=>kK n σ.1 σ.2) FU (out,i)
theorem Nv (n:Int) (out:List Int) (i:Nat):∀y:List Int,vI n out i=some y→Runs Tryz.prog (.loop (nav [1,1,0,1,0,0] (ah Tryz.f244))) (uw n out i) ((.exit 0)) ((fun (y:List Int)=>uz n y) y):=
 aX (head:=fun (σ:List Int×Nat)=>uw n σ.1 σ.2) (eo:=fun (_:List Int)=>(.exit 0)) (so:=fun (y:List Int)=>uz n y) (NG n) (fun _ h=>by cases h) FU (out,i)
def Cc (a:List Int) (n:Int):Option (List Int):=
 (gI a).bind fun x0=>
 (vI n x0 0).bind fun x1=>
 some x1
theorem Rj (a:List Int) (n:Int):∀r,Cc a n=some r→au Tryz.prog 244 0 [SL (cI .u32) a,I n] [] (SL (cI .u32) r) []:=
 ay (enc:=fun r=>SL (cI .u32) r) (aU:=fun r=>[]) 10 (.call [] [] (eU a) .no fun x0=>.ps 1000001 [.k [1,5,6] []] (.lp1 0 (Nv n x0 0) fun x1=>.ret x1)) Tryz.func244 (by kernel_rfl) (by kernel_rfl) (by kernel_rfl)
def zn (a:List Int) (b:List Int):Option (List Int):=
 (gI a).bind fun x0=>
 (gI b).bind fun x1=>
 bif ((x0.length:Nat):Int)==0 then
 some x1
 else
 bif ((x1.length:Nat):Int)==0 then
 some x0
 else
 (uj x0).bind fun x2=>
 (uj x1).bind fun x3=>
 (Hr x2 x3 x2.1 x3.1).bind fun x4=>
 (Cc x4 (mnI x2.2 x3.2)).bind fun x5=>
 some x5
theorem Vq (a:List Int) (b:List Int):∀r,zn a b=some r→au Tryz.prog 211 0 [SL (cI .u32) a,SL (cI .u32) b] [] (SL (cI .u32) r) []:=
 ay (enc:=fun r=>SL (cI .u32) r) (aU:=fun r=>[]) 10 (.call [] [] (eU a) .no fun x0=>.call [] [] (eU b) .no fun x1=>.op 30002 (.ln (cI .u32) x0) (.br 100000016 (.ret x1) (.op 50002 (.ln (cI .u32) x1) (.br 100000020 (.ret x0) (.call [] [] (yX x0) .no fun x2=>.call [] [] (yX x1) .no fun x3=>.ps 1000001 [.k [5,6,7,8] []] (.lp1 0 (P6 x2 x3 x2.1 x3.1) fun x4=>.call [] [] (Rj x4 (mnI x2.2 x3.2)) .no fun x5=>.ret x5)))))) Tryz.func211 (by kernel_rfl) (by kernel_rfl) (by kernel_rfl)
def qX (a:List Int) (b:List Int):Option (List Int×List Int×Bool):=
 (gI b).bind fun x0=>
 bif ((x0.length:Nat):Int)==0 then
 some ([],[],false)
 else
 (zn a x0).bind fun x1=>
 (zu a x1).bind fun x2=>
 (zu x0 x1).bind fun x3=>
 some (x2.1,x3.1,true)
theorem O7 (a:List Int) (b:List Int):∀r,qX a b=some r→au Tryz.prog 162 0 [SL (cI .u32) a,SL (cI .u32) b] [] (.tup [SL (cI .u32) r.1,SL (cI .u32) r.2.1,B r.2.2]) []:=
 ay (enc:=fun r=>.tup [SL (cI .u32) r.1,SL (cI .u32) r.2.1,B r.2.2]) (aU:=fun r=>[]) 10 (.call [] [] (eU b) .no fun x0=>.op 20002 (.ln (cI .u32) x0) (.br 100000016 (.ps 1000003 [.n 4,.n 5] (.ret ([],[],false))) (.call [] [] (Vq a x0) .no fun x1=>.call [] [] (FH a x1) .no fun x2=>.call [] [] (FH x0 x1) .no fun x3=>.ret (x2.1,x3.1,true)))) Tryz.func162 (by kernel_rfl) (by kernel_rfl) (by kernel_rfl)
def lI (n:Whole) (d:List Int):Option Rat:=
 (qX n.Mag d).bind fun x0=>
 bif !x0.2.2 then
 some (Rat.mk false [] [1])
 else
 bif ((x0.1.length:Nat):Int)==0 then
 some (Rat.mk false [] [1])
 else
 some (Rat.mk n.Neg x0.1 x0.2.1)
theorem o8 (n:Whole) (d:List Int):∀r,lI n d=some r→au Tryz.prog 112 0 [AG Whole.D n,SL (cI .u32) d] [] (AG Rat.D r) []:=
 ay (enc:=fun r=>AG Rat.D r) (aU:=fun r=>[]) 10 (.call [] [] (O7 n.Mag d) .no fun x0=>.br 20006 (.ps 1000003 [.b 11] (.ret (Rat.mk false [] [1]))) (.op 20008 (.ln (cI .u32) x0.1) (.br 100000022 (.ps 1000003 [.b 11] (.ret (Rat.mk false [] [1]))) (.ret (Rat.mk n.Neg x0.1 x0.2.1))))) Tryz.func112 (by kernel_rfl) (by kernel_rfl) (by kernel_rfl)
def Om (g:Graph):Option Bool:=
 bif decide (g.Ins≥1) then
 bif decide (g.Ins≤40) then
 bif decide (g.aQ≥1) then
 bif decide (g.aQ≤40) then
 bif decide (g.jB≥0) then
 some (decide (g.jB≤400))
 else
 some false
 else
 some false
 else
 some false
 else
 some false
 else
 some false
theorem PV (g:Graph):∀r,Om g=some r→au Tryz.prog 86 0 [AG Graph.D g] [] (B r) []:=
 ay (enc:=fun r=>B r) (aU:=fun r=>[]) 10 (.br 10008 (.br 10018 (.br 10028 (.br 10038 (.br 10048 (.ret (decide (g.jB≤400))) (.ret false)) (.ret false)) (.ret false)) (.ret false)) (.ret false)) Tryz.func86 (by kernel_rfl) (by kernel_rfl) (by kernel_rfl)
def Uw (g:Graph) (v:Int):Option Bool:=
 bif decide (v≥g.Ins) then
 bif inK .i64 (g.Ins+g.jB) then
 some (decide (v<(g.Ins+g.jB)))
 else none
 else
 some false
theorem V6 (g:Graph) (v:Int):∀r,Uw g v=some r→au Tryz.prog 139 0 [AG Graph.D g,I v] [] (B r) []:=
 ay (enc:=fun r=>B r) (aU:=fun r=>[]) 10 (.br 10010 (.ret (decide (v<(g.Ins+g.jB)))) (.ret false)) Tryz.func139 (by kernel_rfl) (by kernel_rfl) (by kernel_rfl)
def xM (g:Graph) (i:Nat):St:=⟨32,0,[(1,.ptr 10 0 0),(6,SL (cI .i64) g.Gone),(7,I ((g.Gone.length:Nat):Int)),(8,I ((i:Nat):Int))],[(10,BOX [I g.Ins,I g.jB,I g.aQ,SL Edge.D g.aj,SL (cI .i64) g.Gone])]⟩
def xP (g:Graph):St:=⟨32,0,[(2,B false)],[]⟩
def wS (g:Graph):St:=⟨32,0,[],[]⟩
def F6 (g:Graph) (i:Nat):Option (Nat⊕(Unit⊕Unit)):=
 bif decide (((i:Nat):Int)<((g.Gone.length:Nat):Int)) then
 bif decide (i<g.Gone.length) then
 (Uw g (nth g.Gone i)).bind fun x0=>
 bif !x0 then
 some (.inr (.inl ()))
 else
 bif decide (((i:Nat):Int)>0) then
 bif inK .i64 (((i:Nat):Int)-1) then
 bif decide (0≤((i:Nat):Int)-1) then
 bif decide ((((i:Nat):Int)-1).toNat<g.Gone.length) then
 bif decide ((nth g.Gone i)≤(nth g.Gone ((((i:Nat):Int)-1).toNat))) then
 some (.inr (.inl ()))
 else
 bif inK .i64 (((i:Nat):Int)+1) then
 some (.inl (i+1))
 else none
 else none
 else none
 else none
 else
 bif inK .i64 (((i:Nat):Int)+1) then
 some (.inl (i+1))
 else none
 else none
 else
 some (.inr (.inr ()))
theorem OC (g:Graph):∀σ:Nat,aN Tryz.prog (nav [1,0,1,0,0] (ah Tryz.f87)) (fun (σ:Nat)=>xM g σ) (fun (y:Unit⊕Unit)=>aC y (fun _=>.ret) (fun _=>(.exit 0))) (fun (y:Unit⊕Unit)=>aC y (fun y=>xP g) (fun y=>wS g)) σ (F6 g σ)
 | i=>aH 1010 (.br 100000009 (.op 30002 (.el (cI .i64) g.Gone (.up i)) (.call [] [] (V6 g (nth g.Gone i)) .no fun x0=>.br 40010 (.ps 1000003 [.k [2] []] (.ret (.inr (.inl ())))) (.br 40016 (.op 40026 (.el (cI .i64) g.Gone .dn) (.br 100000030 (.ps 1000003 [.k [2] []] (.ret (.inr (.inl ())))) (.ps 1000003 [.k [1,6,7,8] [10]] (.ret (.inl (i+1)))))) (.ps 1000003 [.k [1,6,7,8] [10]] (.ret (.inl (i+1))))))) (.ps 1000003 [.k [] []] (.ret (.inr (.inr ()))))) (by kernel_rfl)
def Kw (g:Graph) (i:Nat):Option (Unit⊕Unit):=aK (fun (σ:Nat)=>F6 g σ) FU i
theorem Ox (g:Graph) (i:Nat):∀y:Unit⊕Unit,Kw g i=some y→Runs Tryz.prog (.loop (nav [1,0,1,0,0] (ah Tryz.f87))) (xM g i) (aC y (fun _=>.ret) (fun _=>(.exit 0))) ((fun (y:Unit⊕Unit)=>aC y (fun y=>xP g) (fun y=>wS g)) y):=
 aX (head:=fun (σ:Nat)=>xM g σ) (eo:=fun (y:Unit⊕Unit)=>aC y (fun _=>.ret) (fun _=>(.exit 0))) (so:=fun (y:Unit⊕Unit)=>aC y (fun y=>xP g) (fun y=>wS g)) (OC g) (fun y h=>by rcases y with y | y<;>cases h) FU i
def Qu (g:Graph):Option Bool:=
 (Kw g 0).bind fun y_=>aC y_ (fun x0=>
 some false)
 (fun x1=>
 some true)
theorem TQ (g:Graph):∀r,Qu g=some r→au Tryz.prog 87 0 [AG Graph.D g] [] (B r) []:=
 ay (enc:=fun r=>B r) (aU:=fun r=>[]) 10 (.op 10004 (.ln (cI .i64) g.Gone) (.ps 1000001 [.k [1,6,7,8] [10]] (.lp2 0 (Ox g 0) (fun x0=>.ret false) (fun x1=>.ret true)))) Tryz.func87 (by kernel_rfl) (by kernel_rfl) (by kernel_rfl)
def jq (s:List Int) (v:Int) (i:Nat):St:=⟨19,0,[(0,SL (cI .i64) s),(1,I v),(7,I ((s.length:Nat):Int)),(8,I ((i:Nat):Int))],[]⟩
def jC (s:List Int) (v:Int) (i:Nat):St:=⟨19,0,[(4,I ((i:Nat):Int))],[]⟩
def jv (s:List Int) (v:Int):St:=⟨19,0,[],[]⟩
def bI (s:List Int) (v:Int) (i:Nat):Option (Nat⊕(Nat⊕Unit)):=
 bif decide (((i:Nat):Int)<((s.length:Nat):Int)) then
 bif decide (i<s.length) then
 bif v==(nth s i) then
 some (.inr (.inl i))
 else
 bif inK .i64 (((i:Nat):Int)+1) then
 some (.inl (i+1))
 else none
 else none
 else
 some (.inr (.inr ()))
theorem BM (s:List Int) (v:Int):∀σ:Nat,aN Tryz.prog (nav [1,0,1,0,0] (ah Tryz.f114)) (fun (σ:Nat)=>jq s v σ) (fun (y:Nat⊕Unit)=>aC y (fun _=>.ret) (fun _=>(.exit 0))) (fun (y:Nat⊕Unit)=>aC y (fun y=>jC s v y) (fun y=>jv s v)) σ (bI s v σ)
 | i=>aH 1010 (.br 100000009 (.op 40006 (.el (cI .i64) s (.up i)) (.br 100000016 (.ps 1000003 [.k [4] []] (.ret (.inr (.inl i)))) (.ps 1000003 [.k [0,1,7,8] []] (.ret (.inl (i+1)))))) (.ps 1000003 [.k [] []] (.ret (.inr (.inr ()))))) (by kernel_rfl)
def dR (s:List Int) (v:Int) (i:Nat):Option (Nat⊕Unit):=aK (fun (σ:Nat)=>bI s v σ) FU i
theorem BL (s:List Int) (v:Int) (i:Nat):∀y:Nat⊕Unit,dR s v i=some y→Runs Tryz.prog (.loop (nav [1,0,1,0,0] (ah Tryz.f114))) (jq s v i) (aC y (fun _=>.ret) (fun _=>(.exit 0))) ((fun (y:Nat⊕Unit)=>aC y (fun y=>jC s v y) (fun y=>jv s v)) y):=
 aX (head:=fun (σ:Nat)=>jq s v σ) (eo:=fun (y:Nat⊕Unit)=>aC y (fun _=>.ret) (fun _=>(.exit 0))) (so:=fun (y:Nat⊕Unit)=>aC y (fun y=>jC s v y) (fun y=>jv s v)) (BM s v) (fun y h=>by rcases y with y | y<;>cases h) FU i
def gW (s:List Int) (v:Int):Option Int:=
 (dR s v 0).bind fun y_=>aC y_ (fun x0=>
 some ((x0:Nat):Int))
 (fun x1=>
 some (-1))
theorem ED (s:List Int) (v:Int):∀r,gW s v=some r→au Tryz.prog 114 0 [SL (cI .i64) s,I v] [] (I r) []:=
 ay (enc:=fun r=>I r) (aU:=fun r=>[]) 10 (.op 10002 (.ln (cI .i64) s) (.ps 1000001 [.k [0,1,7,8] []] (.lp2 0 (BL s v 0) (fun x0=>.ret ((x0:Nat):Int)) (fun x1=>.ret (-1))))) Tryz.func114 (by kernel_rfl) (by kernel_rfl) (by kernel_rfl)
def bF (s:List Int) (v:Int):Option Bool:=
 (gW s v).bind fun x0=>
 some (decide (x0≥0))
theorem dJ (s:List Int) (v:Int):∀r,bF s v=some r→au Tryz.prog 54 0 [SL (cI .i64) s,I v] [] (B r) []:=
 ay (enc:=fun r=>B r) (aU:=fun r=>[]) 10 (.call [] [] (ED s v) .no fun x0=>.ret (decide (x0≥0))) Tryz.func54 (by kernel_rfl) (by kernel_rfl) (by kernel_rfl)
def wI (vals:List Int) (i:Nat):St:=⟨18,0,[(3,I 0),(6,SL (cI .i64) vals),(7,I ((vals.length:Nat):Int)),(8,I ((i:Nat):Int))],[]⟩
def wW (vals:List Int) (i:Int):St:=⟨18,0,[(2,I i)],[]⟩
def wM (vals:List Int):St:=⟨18,0,[(3,I 0)],[]⟩
def F5 (vals:List Int) (i:Nat):Option (Nat⊕(Int⊕Unit)):=
 bif decide (((i:Nat):Int)<((vals.length:Nat):Int)) then
 bif decide (i<vals.length) then
 bif (nth vals i) != 0 then
 some (.inr (.inl (nth vals i)))
 else
 bif inK .i64 (((i:Nat):Int)+1) then
 some (.inl (i+1))
 else none
 else none
 else
 some (.inr (.inr ()))
theorem OD (vals:List Int):∀σ:Nat,aN Tryz.prog (nav [1,1,0,1,0,0] (ah Tryz.f142)) (fun (σ:Nat)=>wI vals σ) (fun (y:Int⊕Unit)=>aC y (fun _=>.ret) (fun _=>(.exit 0))) (fun (y:Int⊕Unit)=>aC y (fun y=>wW vals y) (fun y=>wM vals)) σ (F5 vals σ)
 | i=>aH 1010 (.br 100000009 (.op 40000 (.el (cI .i64) vals (.up i)) (.br 100000014 (.ps 1000003 [.k [2] []] (.ret (.inr (.inl (nth vals i))))) (.ps 1000003 [.k [3,6,7,8] []] (.ret (.inl (i+1)))))) (.ps 1000003 [.k [3] []] (.ret (.inr (.inr ()))))) (by kernel_rfl)
def LX (vals:List Int) (i:Nat):Option (Int⊕Unit):=aK (fun (σ:Nat)=>F5 vals σ) FU i
theorem OA (vals:List Int) (i:Nat):∀y:Int⊕Unit,LX vals i=some y→Runs Tryz.prog (.loop (nav [1,1,0,1,0,0] (ah Tryz.f142))) (wI vals i) (aC y (fun _=>.ret) (fun _=>(.exit 0))) ((fun (y:Int⊕Unit)=>aC y (fun y=>wW vals y) (fun y=>wM vals)) y):=
 aX (head:=fun (σ:Nat)=>wI vals σ) (eo:=fun (y:Int⊕Unit)=>aC y (fun _=>.ret) (fun _=>(.exit 0))) (so:=fun (y:Int⊕Unit)=>aC y (fun y=>wW vals y) (fun y=>wM vals)) (OD vals) (fun y h=>by rcases y with y | y<;>cases h) FU i
def Qd (vals:List Int):Option Int:=
 (LX vals 0).bind fun y_=>aC y_ (fun x0=>
 some x0)
 (fun x1=>
 some 0)
theorem SV (vals:List Int):∀r,Qd vals=some r→au Tryz.prog 142 0 [SL (cI .i64) vals] [] (I r) []:=
 ay (enc:=fun r=>I r) (aU:=fun r=>[]) 10 (.op 20002 (.ln (cI .i64) vals) (.ps 1000001 [.k [3,6,7,8] []] (.lp2 0 (OA vals 0) (fun x0=>.ret x0) (fun x1=>.ret 0)))) Tryz.func142 (by kernel_rfl) (by kernel_rfl) (by kernel_rfl)
def Oj (a:Edge) (b:Edge):Option Int:=
 (cmp_Compare_int a.From b.From).bind fun x0=>
 (cmp_Compare_int a.To b.To).bind fun x1=>
 (Qd [x0,x1]).bind fun x2=>
 some x2
theorem QK (a:Edge) (b:Edge):∀r,Oj a b=some r→au Tryz.prog 89 0 [AG Edge.D a,AG Edge.D b] [] (I r) []:=
 ay (enc:=fun r=>I r) (aU:=fun r=>[]) 10 (.call [] [] (pG a.From b.From) .no fun x0=>.call [] [] (pG a.To b.To) .no fun x1=>.call [] [] (SV [x0,x1]) (.yes fun _=>⟨rfl,trivial⟩) fun x2=>.ret x2) Tryz.func89 (by kernel_rfl) (by kernel_rfl) (by kernel_rfl)
def tC (tA:Graph) (i:Nat):St:=⟨95,0,[(1,.ptr 10 0 0),(14,SL Edge.D tA.aj),(15,I ((tA.aj.length:Nat):Int)),(16,I ((i:Nat):Int))],[(10,BOX [I tA.Ins,I tA.jB,I tA.aQ,SL Edge.D tA.aj,SL (cI .i64) tA.Gone])]⟩
def uS (tA:Graph):St:=⟨95,0,[(2,B false)],[]⟩
def uT (tA:Graph):St:=⟨95,0,[],[]⟩
def EG (tA:Graph) (i:Nat):Option (Nat⊕(Unit⊕Unit)):=
 bif decide (((i:Nat):Int)<((tA.aj.length:Nat):Int)) then
 bif decide (i<tA.aj.length) then
 bif decide (((nth tA.aj i).From)<0) then
 some (.inr (.inl ()))
 else
 bif inK .i64 (tA.Ins+tA.jB) then
 bif decide (((nth tA.aj i).From)≥(tA.Ins+tA.jB)) then
 some (.inr (.inl ()))
 else
 bif decide (((nth tA.aj i).To)<tA.Ins) then
 some (.inr (.inl ()))
 else
 bif inK .i64 (tA.Ins+tA.jB) then
 bif inK .i64 ((tA.Ins+tA.jB)+tA.aQ) then
 bif decide (((nth tA.aj i).To)≥((tA.Ins+tA.jB)+tA.aQ)) then
 some (.inr (.inl ()))
 else
 bif decide (((nth tA.aj i).From)≥((nth tA.aj i).To)) then
 some (.inr (.inl ()))
 else
 (qx ((nth tA.aj i).W)).bind fun x2=>
 bif !x2 then
 some (.inr (.inl ()))
 else
 bif decide (((i:Nat):Int)>0) then
 bif inK .i64 (((i:Nat):Int)-1) then
 bif decide (0≤((i:Nat):Int)-1) then
 bif decide ((((i:Nat):Int)-1).toNat<tA.aj.length) then
 (Oj (nth tA.aj ((((i:Nat):Int)-1).toNat)) (nth tA.aj i)).bind fun x3=>
 bif decide (x3≥0) then
 some (.inr (.inl ()))
 else
 (bF tA.Gone ((nth tA.aj i).From)).bind fun x4=>
 bif x4 then
 some (.inr (.inl ()))
 else
 (bF tA.Gone ((nth tA.aj i).To)).bind fun x5=>
 bif x5 then
 some (.inr (.inl ()))
 else
 bif inK .i64 (((i:Nat):Int)+1) then
 some (.inl (i+1))
 else none
 else none
 else none
 else none
 else
 (bF tA.Gone ((nth tA.aj i).From)).bind fun x3=>
 bif x3 then
 some (.inr (.inl ()))
 else
 (bF tA.Gone ((nth tA.aj i).To)).bind fun x4=>
 bif x4 then
 some (.inr (.inl ()))
 else
 bif inK .i64 (((i:Nat):Int)+1) then
 some (.inl (i+1))
 else none
 else none
 else none
 else none
 else none
 else
 some (.inr (.inr ()))
theorem MG (tA:Graph):∀σ:Nat,aN Tryz.prog (nav [1,1,0,1,0,0] (ah Tryz.f38)) (fun (σ:Nat)=>tC tA σ) (fun (y:Unit⊕Unit)=>aC y (fun _=>.ret) (fun _=>(.exit 0))) (fun (y:Unit⊕Unit)=>aC y (fun y=>uS tA) (fun y=>uT tA)) σ (EG tA σ)
 | i=>aH 1010 (.br 100000017 (.op 50002 (.el Edge.D tA.aj (.up i)) (.br 60008 (.ps 1000003 [.k [2] []] (.ret (.inr (.inl ())))) (.br 60028 (.ps 1000003 [.k [2] []] (.ret (.inr (.inl ())))) (.br 60042 (.ps 1000003 [.k [2] []] (.ret (.inr (.inl ())))) (.br 60068 (.ps 1000003 [.k [2] []] (.ret (.inr (.inl ())))) (.br 100000060 (.ps 1000003 [.k [2] []] (.ret (.inr (.inl ())))) (.call [] [] (zY ((nth tA.aj i).W)) .no fun x2=>.br 80010 (.ps 1000003 [.k [2] []] (.ret (.inr (.inl ())))) (.br 80016 (.op 80024 (.el Edge.D tA.aj .dn) (.call [] [] (QK (nth tA.aj ((((i:Nat):Int)-1).toNat)) (nth tA.aj i)) .no fun x3=>.br 80040 (.ps 1000003 [.k [2] []] (.ret (.inr (.inl ())))) (.call [] [] (dJ tA.Gone ((nth tA.aj i).From)) .no fun x4=>.br 80054 (.ps 1000003 [.k [2] []] (.ret (.inr (.inl ())))) (.call [] [] (dJ tA.Gone ((nth tA.aj i).To)) .no fun x5=>.br 100000093 (.ps 1000003 [.k [2] []] (.ret (.inr (.inl ())))) (.ps 1000003 [.k [1,14,15,16] [10]] (.ret (.inl (i+1)))))))) (.call [] [] (dJ tA.Gone ((nth tA.aj i).From)) .no fun x3=>.br 80054 (.ps 1000003 [.k [2] []] (.ret (.inr (.inl ())))) (.call [] [] (dJ tA.Gone ((nth tA.aj i).To)) .no fun x4=>.br 100000093 (.ps 1000003 [.k [2] []] (.ret (.inr (.inl ())))) (.ps 1000003 [.k [1,14,15,16] [10]] (.ret (.inl (i+1)))))))))))))) (.ps 1000003 [.k [] []] (.ret (.inr (.inr ()))))) (by kernel_rfl)
def Jd (tA:Graph) (i:Nat):Option (Unit⊕Unit):=aK (fun (σ:Nat)=>EG tA σ) FU i
theorem Mc (tA:Graph) (i:Nat):∀y:Unit⊕Unit,Jd tA i=some y→Runs Tryz.prog (.loop (nav [1,1,0,1,0,0] (ah Tryz.f38))) (tC tA i) (aC y (fun _=>.ret) (fun _=>(.exit 0))) ((fun (y:Unit⊕Unit)=>aC y (fun y=>uS tA) (fun y=>uT tA)) y):=
 aX (head:=fun (σ:Nat)=>tC tA σ) (eo:=fun (y:Unit⊕Unit)=>aC y (fun _=>.ret) (fun _=>(.exit 0))) (so:=fun (y:Unit⊕Unit)=>aC y (fun y=>uS tA) (fun y=>uT tA)) (MG tA) (fun y h=>by rcases y with y | y<;>cases h) FU i
def NU (tA:Graph):Option Bool:=
 (Om tA).bind fun x0=>
 bif !x0 then
 some false
 else
 (Qu tA).bind fun x1=>
 bif !x1 then
 some false
 else
 (Jd tA 0).bind fun y_=>aC y_ (fun x2=>
 some false)
 (fun x3=>
 some true)
theorem Qk (tA:Graph):∀r,NU tA=some r→au Tryz.prog 38 0 [AG Graph.D tA] [] (B r) []:=
 ay (enc:=fun r=>B r) (aU:=fun r=>[]) 10 (.call [] [] (PV tA) .no fun x0=>.br 10008 (.ret false) (.call [] [] (TQ tA) .no fun x1=>.br 100000012 (.ret false) (.op 30004 (.ln Edge.D tA.aj) (.ps 1000001 [.k [1,14,15,16] [10]] (.lp2 0 (Mc tA 0) (fun x2=>.ret false) (fun x3=>.ret true)))))) Tryz.func38 (by kernel_rfl) (by kernel_rfl) (by kernel_rfl)
end Go.Ab.M
