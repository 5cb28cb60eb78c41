import Derived.Test.YtcelliafjmmldaaGreatTC
namespace Go.Ab.M
open Go.Proofs
set_option linter.unusedVariables false
set_option maxRecDepth 100000
structure Whole where
 Neg:Bool
 Mag:List Int
 deriving DecidableEq,Inhabited
abbrev Whole.D (x:Whole):List D:=[.v (.bool x.Neg),.sl (x.Mag.map (cI .u32))]
structure Edge where
 From:Int
 To:Int
 W:Rat
 deriving DecidableEq,Inhabited
abbrev Edge.D (x:Edge):List D:=[.v (.int .i64 x.From)]++[.v (.int .i64 x.To)]++Rat.D x.W
structure Graph where
 Ins:Int
 bg:Int
 aB:Int
 Edges:List Edge
 Gone:List Int
 deriving DecidableEq,Inhabited
abbrev Graph.D (x:Graph):List D:=[.v (.int .i64 x.Ins),.v (.int .i64 x.bg),.v (.int .i64 x.aB),.sl (x.Edges.map Edge.D),.sl (x.Gone.map (cI .i64))]
def F6 (n1:Int) (out:List Int):St:=⟨15,0,[(0,NI .u64 n1),(3,dw 100010 out)],[(100010,dO 1 (cI .u32) out)]⟩
def FK (out:List Int):St:=⟨15,0,[(3,dw 100010 out)],[(100010,dO 1 (cI .u32) out)]⟩
def sQ (n1:Int) (out:List Int):Option ((Int×List Int)⊕(List Int)):=
 bif decide (n1>0) then
 bif decide (0≤n1) then
 bif decide (0<4294967296) then
 bif decide (out.length+1≤2147483648) then
 bif decide (0≤n1) then
 bif decide (0<4294967296) then
 bif decide (n1≤Go.Ab.hi .u64) then
 some (.inl (n1/4294967296,out++[IntKind.wrap .u32 (n1%4294967296)]))
 else none
 else none
 else none
 else none
 else none
 else none
 else
 some (.inr out)
theorem Xi:∀σ:Int×List Int,aP Tryz.prog (nav [1,1,0,0,0] (ah Tryz.f159)) (fun (σ:Int×List Int)=>F6 σ.1 σ.2) (fun (_:List Int)=>(.exit 0)) (fun (y:List Int)=>FK y) σ (sQ σ.1 σ.2)
 | (n1,[])=>aJ 1010 (.br 100000005 (.op 30006 .wr (.op 30010 (.ap (cI .u32) [] [IntKind.wrap .u32 (n1%4294967296)] 1 fun _=>⟨rfl,rfl⟩) (.ps 1000003 [.k [0,3] [1011],.m 1011 100010] (.ret (.inl (n1/4294967296,[IntKind.wrap .u32 (n1%4294967296)])))))) (.ps 1000003 [.k [3] [100010]] (.ret (.inr [])))) (by kernel_rfl)
 | (n1,fA::fB)=>aJ 1010 (.br 100000005 (.op 30006 .wr (.op 30010 (.ap (cI .u32) (fA::fB) [IntKind.wrap .u32 (n1%4294967296)] 1 fun _=>⟨rfl,rfl⟩) (.ps 1000003 [.k [0,3] [1011],.m 1011 100010] (.ret (.inl (n1/4294967296,(fA::fB)++[IntKind.wrap .u32 (n1%4294967296)])))))) (.ps 1000003 [.k [3] [100010]] (.ret (.inr (fA::fB))))) (by kernel_rfl)
def IZ (n1:Int) (out:List Int):Option (List Int):=aI (fun (σ:Int×List Int)=>sQ σ.1 σ.2) FU (n1,out)
theorem WT (n1:Int) (out:List Int):∀y:List Int,IZ n1 out=some y→Runs Tryz.prog (.loop (nav [1,1,0,0,0] (ah Tryz.f159))) (F6 n1 out) ((.exit 0)) ((fun (y:List Int)=>FK y) y):=
 bf (head:=fun (σ:Int×List Int)=>F6 σ.1 σ.2) (eo:=fun (_:List Int)=>(.exit 0)) (so:=fun (y:List Int)=>FK y) (Xi) (fun _ h=>by cases h) FU (n1,out)
def JG (n:Int):Option (List Int):=
 (IZ n []).bind fun x0=>
 some x0
theorem Sz (n:Int):∀r,JG n=some r→aj Tryz.prog 159 0 [NI .u64 n] [] (SL (cI .u32) r) []:=
 au (enc:=fun r=>SL (cI .u32) r) (aQ:=fun r=>[]) 10 (.ps 1000001 [.k [0,3] [100010]] (.lp1 0 (WT n []) fun x0=>.oz 1 3 100010 1 (cI .u32) x0 (.ps 1 [.k [3] []] (.ret x0)))) Tryz.func159 (by kernel_rfl) (by kernel_rfl) (by kernel_rfl)
def F8 (n:Int):Option Whole:=
 bif decide (n≥0) then
 (JG (IntKind.wrap .u64 n)).bind fun x0=>
 some (Whole.mk false x0)
 else
 (JG (IntKind.wrap .u64 (0-(IntKind.wrap .u64 n)))).bind fun x0=>
 some (Whole.mk true x0)
theorem Sl (n:Int):∀r,F8 n=some r→aj Tryz.prog 97 0 [I n] [] (AG Whole.D r) []:=
 au (enc:=fun r=>AG Whole.D r) (aQ:=fun r=>[]) 10 (.br 100000005 (.op 20002 .wr (.call [] [] (Sz (IntKind.wrap .u64 n)) .no fun x0=>.ret (Whole.mk false x0))) (.op 30002 .wr (.call [] [] (Sz (IntKind.wrap .u64 (0-(IntKind.wrap .u64 n)))) .no fun x0=>.ret (Whole.mk true x0)))) Tryz.func97 (by kernel_rfl) (by kernel_rfl) (by kernel_rfl)
def Dc (l:List Int) (n:Nat) (i:Nat):St:=⟨19,0,[(0,SL (cI .u32) l),(3,I ((n:Nat):Int)),(4,I ((i:Nat):Int))],[]⟩
def Di (l:List Int) (n:Nat):St:=⟨19,0,[(3,I ((n:Nat):Int))],[]⟩
def nJ (l:List Int) (n:Nat) (i:Nat):Option ((Nat×Nat)⊕Nat):=
 bif decide (((i:Nat):Int)<((l.length:Nat):Int)) then
 bif decide (i<l.length) then
 bif (nth l i) != 0 then
 bif inK .i64 (((i:Nat):Int)+1) then
 bif inK .i64 (((i:Nat):Int)+1) then
 some (.inl (i+1,i+1))
 else none
 else none
 else
 bif inK .i64 (((i:Nat):Int)+1) then
 some (.inl (n,i+1))
 else none
 else none
 else
 some (.inr n)
theorem VT (l:List Int):∀σ:Nat×Nat,aP Tryz.prog (nav [1,1,0,1,0,0] (ah Tryz.f253)) (fun (σ:Nat×Nat)=>Dc l σ.1 σ.2) (fun (_:Nat)=>(.exit 0)) (fun (y:Nat)=>Di l y) σ (nJ l σ.1 σ.2)
 | (n,i)=>aJ 1010 (.op 30004 (.ln (cI .u32) l) (.br 100000008 (.op 50004 (.el (cI .u32) l (.up i)) (.br 100000015 (.ps 1000003 [.k [0,3,4] []] (.ret (.inl (i+1,i+1)))) (.ps 1000003 [.k [0,3,4] []] (.ret (.inl (n,i+1)))))) (.ps 1000003 [.k [3] []] (.ret (.inr n))))) (by kernel_rfl)
def EI (l:List Int) (n:Nat) (i:Nat):Option Nat:=aI (fun (σ:Nat×Nat)=>nJ l σ.1 σ.2) FU (n,i)
theorem U6 (l:List Int) (n:Nat) (i:Nat):∀y:Nat,EI l n i=some y→Runs Tryz.prog (.loop (nav [1,1,0,1,0,0] (ah Tryz.f253))) (Dc l n i) ((.exit 0)) ((fun (y:Nat)=>Di l y) y):=
 bf (head:=fun (σ:Nat×Nat)=>Dc l σ.1 σ.2) (eo:=fun (_:Nat)=>(.exit 0)) (so:=fun (y:Nat)=>Di l y) (VT l) (fun _ h=>by cases h) FU (n,i)
def Ld (l:List Int):Option Int:=
 (EI l 0 0).bind fun x0=>
 some ((x0:Nat):Int)
theorem Zn (l:List Int):∀r,Ld l=some r→aj Tryz.prog 253 0 [SL (cI .u32) l] [] (I r) []:=
 au (enc:=fun r=>I r) (aQ:=fun r=>[]) 10 (.ps 1000001 [.k [0,3,4] []] (.lp1 0 (U6 l 0 0) fun x0=>.ret ((x0:Nat):Int))) Tryz.func253 (by kernel_rfl) (by kernel_rfl) (by kernel_rfl)
def Ai (a:List Int) (x0:Int) (out:List Int) (i:Nat):St:=⟨21,0,[(0,SL (cI .u32) a),(3,I x0),(4,dw 100011 out),(5,I ((i:Nat):Int))],[(100011,dO 1 (cI .u32) out)]⟩
def zW (a:List Int) (x0:Int) (out:List Int):St:=⟨21,0,[(4,dw 100011 out)],[(100011,dO 1 (cI .u32) out)]⟩
def oM (a:List Int) (x0:Int) (out:List Int) (i:Nat):Option ((List Int×Nat)⊕(List Int)):=
 bif decide (((i:Nat):Int)<x0) then
 bif decide (i<a.length) then
 bif decide (out.length+1≤2147483648) then
 bif inK .i64 (((i:Nat):Int)+1) then
 some (.inl (out++[nth a i],i+1))
 else none
 else none
 else none
 else
 some (.inr out)
theorem TS (a:List Int) (x0:Int):∀σ:List Int×Nat,aP Tryz.prog (nav [1,1,1,0,1,0,0] (ah Tryz.f192)) (fun (σ:List Int×Nat)=>Ai a x0 σ.1 σ.2) (fun (_:List Int)=>(.exit 0)) (fun (y:List Int)=>zW a x0 y) σ (oM a x0 σ.1 σ.2)
 | ([],i)=>aJ 1010 (.br 100000010 (.op 60006 (.el (cI .u32) a (.up i)) (.op 60012 (.ap (cI .u32) [] [nth a i] 1 fun _=>⟨rfl,rfl⟩) (.ps 1000003 [.k [0,3,4,5] [1011],.m 1011 100011] (.ret (.inl ([nth a i],i+1)))))) (.ps 1000003 [.k [4] [100011]] (.ret (.inr [])))) (by kernel_rfl)
 | (fA::fB,i)=>aJ 1010 (.br 100000010 (.op 60006 (.el (cI .u32) a (.up i)) (.op 60012 (.ap (cI .u32) (fA::fB) [nth a i] 1 fun _=>⟨rfl,rfl⟩) (.ps 1000003 [.k [0,3,4,5] [1011],.m 1011 100011] (.ret (.inl ((fA::fB)++[nth a i],i+1)))))) (.ps 1000003 [.k [4] [100011]] (.ret (.inr (fA::fB))))) (by kernel_rfl)
def Bq (a:List Int) (x0:Int) (out:List Int) (i:Nat):Option (List Int):=aI (fun (σ:List Int×Nat)=>oM a x0 σ.1 σ.2) FU (out,i)
theorem Tj (a:List Int) (x0:Int) (out:List Int) (i:Nat):∀y:List Int,Bq a x0 out i=some y→Runs Tryz.prog (.loop (nav [1,1,1,0,1,0,0] (ah Tryz.f192))) (Ai a x0 out i) ((.exit 0)) ((fun (y:List Int)=>zW a x0 y) y):=
 bf (head:=fun (σ:List Int×Nat)=>Ai a x0 σ.1 σ.2) (eo:=fun (_:List Int)=>(.exit 0)) (so:=fun (y:List Int)=>zW a x0 y) (TS a x0) (fun _ h=>by cases h) FU (out,i)
def gU (a:List Int):Option (List Int):=
 (Ld a).bind fun x0=>
 (Bq a x0 [] 0).bind fun x1=>
 some x1
theorem iW (a:List Int):∀r,gU a=some r→aj Tryz.prog 192 0 [SL (cI .u32) a] [] (SL (cI .u32) r) []:=
 au (enc:=fun r=>SL (cI .u32) r) (aQ:=fun r=>[]) 10 (.call [] [] (Zn a) .no fun x0=>.ps 1000001 [.k [0,3,4,5] [100011]] (.lp1 0 (Tj a x0 [] 0) fun x1=>.oz 1 4 100011 1 (cI .u32) x1 (.ps 1 [.k [4] []] (.ret x1)))) Tryz.func192 (by kernel_rfl) (by kernel_rfl) (by kernel_rfl)
def CU (a:List Int) (w:Int) (out:List Int) (carry:Int) (i:Nat):St:=⟨44,0,[(0,SL (cI .u32) a),(1,NI .u32 w),(7,dw 100012 out),(8,NI .u64 carry),(9,I ((i:Nat):Int))],[(100012,dO 1 (cI .u32) out)]⟩
def DX (a:List Int) (w:Int) (out:List Int) (carry:Int):St:=⟨44,0,[(7,dw 100012 out),(8,NI .u64 carry)],[(100012,dO 1 (cI .u32) out)]⟩
def qw (a:List Int) (w:Int) (out:List Int) (carry:Int) (i:Nat):Option ((List Int×Int×Nat)⊕(List Int×Int)):=
 bif decide (((i:Nat):Int)<((a.length:Nat):Int)) then
 bif decide (i<a.length) then
 bif inK .u64 (nth a i) then
 bif inK .u64 w then
 bif decide (0≤IntKind.wrap .u64 ((IntKind.wrap .u64 ((nth a i)*w))+carry)) then
 bif decide (0<4294967296) then
 bif decide (out.length+1≤2147483648) then
 bif decide (0≤IntKind.wrap .u64 ((IntKind.wrap .u64 ((nth a i)*w))+carry)) then
 bif decide (0<4294967296) then
 bif decide (IntKind.wrap .u64 ((IntKind.wrap .u64 ((nth a i)*w))+carry)≤Go.Ab.hi .u64) then
 bif inK .i64 (((i:Nat):Int)+1) then
 some (.inl (out++[IntKind.wrap .u32 ((IntKind.wrap .u64 ((IntKind.wrap .u64 ((nth a i)*w))+carry))%4294967296)],(IntKind.wrap .u64 ((IntKind.wrap .u64 ((nth a i)*w))+carry))/4294967296,i+1))
 else none
 else none
 else none
 else none
 else none
 else none
 else none
 else none
 else none
 else none
 else
 some (.inr (out,carry))
theorem Wx (a:List Int) (w:Int):∀σ:List Int×Int×Nat,aP Tryz.prog (nav [1,1,1,0,1,0,0] (ah Tryz.f165)) (fun (σ:List Int×Int×Nat)=>CU a w σ.1 σ.2.1 σ.2.2) (fun (_:List Int×Int)=>(.exit 0)) (fun (y:List Int×Int)=>DX a w y.1 y.2) σ (qw a w σ.1 σ.2.1 σ.2.2)
 | ([],carry,i)=>aJ 1010 (.op 40004 (.ln (cI .u32) a) (.br 100000016 (.op 60004 (.el (cI .u32) a (.up i)) (.op 70006 .wr (.op 70010 (.ap (cI .u32) [] [IntKind.wrap .u32 ((IntKind.wrap .u64 ((IntKind.wrap .u64 ((nth a i)*w))+carry))%4294967296)] 1 fun _=>⟨rfl,rfl⟩) (.ps 1000003 [.k [0,1,7,8,9] [1011],.m 1011 100012] (.ret (.inl ([IntKind.wrap .u32 ((IntKind.wrap .u64 ((IntKind.wrap .u64 ((nth a i)*w))+carry))%4294967296)],(IntKind.wrap .u64 ((IntKind.wrap .u64 ((nth a i)*w))+carry))/4294967296,i+1))))))) (.ps 1000003 [.k [7,8] [100012]] (.ret (.inr ([],carry)))))) (by kernel_rfl)
 | (fA::fB,carry,i)=>aJ 1010 (.op 40004 (.ln (cI .u32) a) (.br 100000016 (.op 60004 (.el (cI .u32) a (.up i)) (.op 70006 .wr (.op 70010 (.ap (cI .u32) (fA::fB) [IntKind.wrap .u32 ((IntKind.wrap .u64 ((IntKind.wrap .u64 ((nth a i)*w))+carry))%4294967296)] 1 fun _=>⟨rfl,rfl⟩) (.ps 1000003 [.k [0,1,7,8,9] [1011],.m 1011 100012] (.ret (.inl ((fA::fB)++[IntKind.wrap .u32 ((IntKind.wrap .u64 ((IntKind.wrap .u64 ((nth a i)*w))+carry))%4294967296)],(IntKind.wrap .u64 ((IntKind.wrap .u64 ((nth a i)*w))+carry))/4294967296,i+1))))))) (.ps 1000003 [.k [7,8] [100012]] (.ret (.inr ((fA::fB),carry)))))) (by kernel_rfl)
def Fh (a:List Int) (w:Int) (out:List Int) (carry:Int) (i:Nat):Option (List Int×Int):=aI (fun (σ:List Int×Int×Nat)=>qw a w σ.1 σ.2.1 σ.2.2) FU (out,carry,i)
theorem Vy (a:List Int) (w:Int) (out:List Int) (carry:Int) (i:Nat):∀y:List Int×Int,Fh a w out carry i=some y→Runs Tryz.prog (.loop (nav [1,1,1,0,1,0,0] (ah Tryz.f165))) (CU a w out carry i) ((.exit 0)) ((fun (y:List Int×Int)=>DX a w y.1 y.2) y):=
 bf (head:=fun (σ:List Int×Int×Nat)=>CU a w σ.1 σ.2.1 σ.2.2) (eo:=fun (_:List Int×Int)=>(.exit 0)) (so:=fun (y:List Int×Int)=>DX a w y.1 y.2) (Wx a w) (fun _ h=>by cases h) FU (out,carry,i)
def jM (a:List Int) (w:Int) (c:Int):Option (List Int):=
 bif inK .u64 c then
 (Fh a w [] c 0).bind fun x0=>
 bif x0.1.isEmpty then
 (gU [IntKind.wrap .u32 x0.2]).bind fun x1=>
 some x1
 else
 bif decide (x0.1.length+1≤2147483648) then
 (gU (x0.1++[IntKind.wrap .u32 x0.2])).bind fun x1=>
 some x1
 else none
 else none
theorem Bc (a:List Int) (w:Int) (c:Int):∀r,jM a w c=some r→aj Tryz.prog 165 0 [SL (cI .u32) a,NI .u32 w,NI .u32 c] [] (SL (cI .u32) r) []:=
 au (enc:=fun r=>SL (cI .u32) r) (aQ:=fun r=>[]) 10 (.ps 1000001 [.k [0,1,7,8,9] [100012]] (.lp1 0 (Vy a w [] c 0) fun x0=>.cl 1 7 100012 1 (cI .u32) x0.1 (.ps 1 [.k [7,8] []] (.op 90004 .wr (.op 90008 (.ap (cI .u32) [] [IntKind.wrap .u32 x0.2] 1 fun _=>⟨rfl,rfl⟩) (.call [] [] (iW [IntKind.wrap .u32 x0.2]) .no fun x1=>.ret x1)))) (.ps 1 [.k [7,8] [100012]] (.op 90004 .wr (.op 90008 (.ap (cI .u32) x0.1 [IntKind.wrap .u32 x0.2] 1 fun _=>⟨rfl,rfl⟩) (.call [] [] (iW (x0.1++[IntKind.wrap .u32 x0.2])) .no fun x1=>.ret x1)))))) Tryz.func165 (by kernel_rfl) (by kernel_rfl) (by kernel_rfl)
def Ll (a:List Int) (i:Int):Option Int:=
 bif decide (0≤i) then
 bif decide (0<32) then
 bif decide (i≤Go.Ab.hi .i64) then
 bif decide (0≤i/32) then
 bif decide ((i/32).toNat<a.length) then
 bif decide (0≤i) then
 bif decide (0<32) then
 bif decide (0≤i%32) then
 some (ahW .u32 (oN .u32 (nth a ((i/32).toNat)) (i%32)) 1)
 else none
 else none
 else none
 else none
 else none
 else none
 else none
 else none
theorem Y5 (a:List Int) (i:Int):∀r,Ll a i=some r→aj Tryz.prog 269 0 [SL (cI .u32) a,I i] [] (NI .u32 r) []:=
 au (enc:=fun r=>NI .u32 r) (aQ:=fun r=>[]) 10 (.op 10006 (.el (cI .u32) a .dn) (.ret (ahW .u32 (oN .u32 (nth a ((i/32).toNat)) (i%32)) 1))) Tryz.func269 (by kernel_rfl) (by kernel_rfl) (by kernel_rfl)
def oL (a:List Int) (i:Int):Option Int:=
 bif decide (i<0) then
 some 0
 else
 bif decide (i≥((a.length:Nat):Int)) then
 some 0
 else
 bif decide (0≤i) then
 bif decide (i.toNat<a.length) then
 bif inK .u64 (nth a i.toNat) then
 some (nth a i.toNat)
 else none
 else none
 else none
theorem nR (a:List Int) (i:Int):∀r,oL a i=some r→aj Tryz.prog 218 0 [SL (cI .u32) a,I i] [] (NI .u64 r) []:=
 au (enc:=fun r=>NI .u64 r) (aQ:=fun r=>[]) 10 (.br 10006 (.ret 0) (.op 10010 (.ln (cI .u32) a) (.br 100000012 (.ret 0) (.op 30004 (.el (cI .u32) a .dn) (.ret (nth a i.toNat)))))) Tryz.func218 (by kernel_rfl) (by kernel_rfl) (by kernel_rfl)
def Ec (a:List Int) (b:List Int) (i:Int):St:=⟨32,0,[(0,SL (cI .u32) a),(1,SL (cI .u32) b),(6,I i)],[]⟩
def Dq (a:List Int) (b:List Int) (i:Int):St:=⟨32,0,[(4,I i)],[]⟩
def Eh (a:List Int) (b:List Int):St:=⟨32,0,[],[]⟩
def mZ (a:List Int) (b:List Int) (i:Int):Option (Int⊕(Int⊕Unit)):=
 bif decide (i≥0) then
 (oL a i).bind fun x0=>
 (oL b i).bind fun x1=>
 bif decide (x0<x1) then
 some (.inr (.inl (-1)))
 else
 (oL a i).bind fun x2=>
 (oL b i).bind fun x3=>
 bif decide (x2>x3) then
 some (.inr (.inl 1))
 else
 bif inK .i64 (i-1) then
 some (.inl (i-1))
 else none
 else
 some (.inr (.inr ()))
theorem VD (a:List Int) (b:List Int):∀σ:Int,aP Tryz.prog (nav [1,1,0,1,0,0] (ah Tryz.f162)) (fun (σ:Int)=>Ec a b σ) (fun (y:Int⊕Unit)=>aK y (fun _=>.ret) (fun _=>(.exit 0))) (fun (y:Int⊕Unit)=>aK y (fun y=>Dq a b y) (fun y=>Eh a b)) σ (mZ a b σ)
 | i=>aJ 1010 (.br 100000015 (.call [] [] (nR a i) .no fun x0=>.call [] [] (nR b i) .no fun x1=>.br 100000024 (.ps 1000003 [.k [4] []] (.ret (.inr (.inl (-1))))) (.call [] [] (nR a i) .no fun x2=>.call [] [] (nR b i) .no fun x3=>.br 100000031 (.ps 1000003 [.k [4] []] (.ret (.inr (.inl 1)))) (.ps 1000003 [.k [0,1,6] []] (.ret (.inl (i-1)))))) (.ps 1000003 [.k [] []] (.ret (.inr (.inr ()))))) (by kernel_rfl)
def KR (a:List Int) (b:List Int) (i:Int):Option (Int⊕Unit):=aI (fun (σ:Int)=>mZ a b σ) FU i
theorem UQ (a:List Int) (b:List Int) (i:Int):∀y:Int⊕Unit,KR a b i=some y→Runs Tryz.prog (.loop (nav [1,1,0,1,0,0] (ah Tryz.f162))) (Ec a b i) (aK y (fun _=>.ret) (fun _=>(.exit 0))) ((fun (y:Int⊕Unit)=>aK y (fun y=>Dq a b y) (fun y=>Eh a b)) y):=
 bf (head:=fun (σ:Int)=>Ec a b σ) (eo:=fun (y:Int⊕Unit)=>aK y (fun _=>.ret) (fun _=>(.exit 0))) (so:=fun (y:Int⊕Unit)=>aK y (fun y=>Dq a b y) (fun y=>Eh a b)) (VD a b) (fun y h=>by rcases y with y | y<;>cases h) FU i
def uV (a:List Int) (b:List Int):Option Int:=
 bif inK .i64 ((mxI ((a.length:Nat):Int) ((b.length:Nat):Int))-1) then
 (KR a b ((mxI ((a.length:Nat):Int) ((b.length:Nat):Int))-1)).bind fun y_=>aK y_ (fun x0=>
 some x0)
 (fun x1=>
 some 0)
 else none
theorem BO (a:List Int) (b:List Int):∀r,uV a b=some r→aj Tryz.prog 162 0 [SL (cI .u32) a,SL (cI .u32) b] [] (I r) []:=
 au (enc:=fun r=>I r) (aQ:=fun r=>[]) 10 (.op 10002 (.ln (cI .u32) a) (.op 10006 (.ln (cI .u32) b) (.ps 1000001 [.k [0,1,6] []] (.lp2 0 (UQ a b ((mxI ((a.length:Nat):Int) ((b.length:Nat):Int))-1)) (fun x0=>.ret x0) (fun x1=>.ret 0))))) Tryz.func162 (by kernel_rfl) (by kernel_rfl) (by kernel_rfl)
def D6 (a:List Int) (b:List Int) (out:List Int) (borrow:Int) (i:Nat):St:=⟨41,0,[(0,SL (cI .u32) a),(1,SL (cI .u32) b),(6,dw 100013 out),(7,NI .u64 borrow),(8,I ((i:Nat):Int))],[(100013,dO 1 (cI .u32) out)]⟩
def D8 (a:List Int) (b:List Int) (out:List Int):St:=⟨41,0,[(6,dw 100013 out)],[(100013,dO 1 (cI .u32) out)]⟩
def qJ (a:List Int) (b:List Int) (out:List Int) (borrow:Int) (i:Nat):Option ((List Int×Int×Nat)⊕(List Int)):=
 bif decide (((i:Nat):Int)<((a.length:Nat):Int)) then
 (oL a ((i:Nat):Int)).bind fun x1=>
 (oL b ((i:Nat):Int)).bind fun x2=>
 bif decide (0≤IntKind.wrap .u64 ((IntKind.wrap .u64 ((IntKind.wrap .u64 (4294967296+x1))-x2))-borrow)) then
 bif decide (0<4294967296) then
 bif decide (out.length+1≤2147483648) then
 bif decide (0≤IntKind.wrap .u64 ((IntKind.wrap .u64 ((IntKind.wrap .u64 (4294967296+x1))-x2))-borrow)) then
 bif decide (0<4294967296) then
 bif decide (IntKind.wrap .u64 ((IntKind.wrap .u64 ((IntKind.wrap .u64 (4294967296+x1))-x2))-borrow)≤Go.Ab.hi .u64) then
 bif inK .i64 (((i:Nat):Int)+1) then
 some (.inl (out++[IntKind.wrap .u32 ((IntKind.wrap .u64 ((IntKind.wrap .u64 ((IntKind.wrap .u64 (4294967296+x1))-x2))-borrow))%4294967296)],IntKind.wrap .u64 (1-((IntKind.wrap .u64 ((IntKind.wrap .u64 ((IntKind.wrap .u64 (4294967296+x1))-x2))-borrow))/4294967296)),i+1))
 else none
 else none
 else none
 else none
 else none
 else none
 else none
 else
 some (.inr out)
theorem VG (a:List Int) (b:List Int):∀σ:List Int×Int×Nat,aP Tryz.prog (nav [1,1,1,1,0,1,0,0] (ah Tryz.f163)) (fun (σ:List Int×Int×Nat)=>D6 a b σ.1 σ.2.1 σ.2.2) (fun (_:List Int)=>(.exit 0)) (fun (y:List Int)=>D8 a b y) σ (qJ a b σ.1 σ.2.1 σ.2.2)
 | ([],borrow,i)=>aJ 1010 (.op 60004 (.ln (cI .u32) a) (.br 100000017 (.call [] [] (nR a ((i:Nat):Int)) .no fun x1=>.call [] [] (nR b ((i:Nat):Int)) .no fun x2=>.op 90006 .wr (.op 90010 (.ap (cI .u32) [] [IntKind.wrap .u32 ((IntKind.wrap .u64 ((IntKind.wrap .u64 ((IntKind.wrap .u64 (4294967296+x1))-x2))-borrow))%4294967296)] 1 fun _=>⟨rfl,rfl⟩) (.ps 1000003 [.k [0,1,6,7,8] [1011],.m 1011 100013] (.ret (.inl ([IntKind.wrap .u32 ((IntKind.wrap .u64 ((IntKind.wrap .u64 ((IntKind.wrap .u64 (4294967296+x1))-x2))-borrow))%4294967296)],IntKind.wrap .u64 (1-((IntKind.wrap .u64 ((IntKind.wrap .u64 ((IntKind.wrap .u64 (4294967296+x1))-x2))-borrow))/4294967296)),i+1)))))) (.ps 1000003 [.k [6] [100013]] (.ret (.inr []))))) (by kernel_rfl)
 | (fA::fB,borrow,i)=>aJ 1010 (.op 60004 (.ln (cI .u32) a) (.br 100000017 (.call [] [] (nR a ((i:Nat):Int)) .no fun x1=>.call [] [] (nR b ((i:Nat):Int)) .no fun x2=>.op 90006 .wr (.op 90010 (.ap (cI .u32) (fA::fB) [IntKind.wrap .u32 ((IntKind.wrap .u64 ((IntKind.wrap .u64 ((IntKind.wrap .u64 (4294967296+x1))-x2))-borrow))%4294967296)] 1 fun _=>⟨rfl,rfl⟩) (.ps 1000003 [.k [0,1,6,7,8] [1011],.m 1011 100013] (.ret (.inl ((fA::fB)++[IntKind.wrap .u32 ((IntKind.wrap .u64 ((IntKind.wrap .u64 ((IntKind.wrap .u64 (4294967296+x1))-x2))-borrow))%4294967296)],IntKind.wrap .u64 (1-((IntKind.wrap .u64 ((IntKind.wrap .u64 ((IntKind.wrap .u64 (4294967296+x1))-x2))-borrow))/4294967296)),i+1)))))) (.ps 1000003 [.k [6] [100013]] (.ret (.inr (fA::fB)))))) (by kernel_rfl)
def EO (a:List Int) (b:List Int) (out:List Int) (borrow:Int) (i:Nat):Option (List Int):=aI (fun (σ:List Int×Int×Nat)=>qJ a b σ.1 σ.2.1 σ.2.2) FU (out,borrow,i)
theorem VI (a:List Int) (b:List Int) (out:List Int) (borrow:Int) (i:Nat):∀y:List Int,EO a b out borrow i=some y→Runs Tryz.prog (.loop (nav [1,1,1,1,0,1,0,0] (ah Tryz.f163))) (D6 a b out borrow i) ((.exit 0)) ((fun (y:List Int)=>D8 a b y) y):=
 bf (head:=fun (σ:List Int×Int×Nat)=>D6 a b σ.1 σ.2.1 σ.2.2) (eo:=fun (_:List Int)=>(.exit 0)) (so:=fun (y:List Int)=>D8 a b y) (VG a b) (fun _ h=>by cases h) FU (out,borrow,i)
def uM (a:List Int) (b:List Int):Option (List Int×Bool):=
 (uV a b).bind fun x0=>
 bif decide (x0<0) then
 some ([],false)
 else
 (EO a b [] 0 0).bind fun x1=>
 (gU x1).bind fun x2=>
 some (x2,true)
theorem Ij (a:List Int) (b:List Int):∀r,uM a b=some r→aj Tryz.prog 163 0 [SL (cI .u32) a,SL (cI .u32) b] [] (.tup [SL (cI .u32) r.1,B r.2]) []:=
 au (enc:=fun r=>.tup [SL (cI .u32) r.1,B r.2]) (aQ:=fun r=>[]) 10 (.call [] [] (BO a b) .no fun x0=>.br 100000013 (.ps 1000003 [.n 4] (.ret ([],false))) (.ps 1000001 [.k [0,1,6,7,8] [100013]] (.lp1 0 (VI a b [] 0 0) fun x1=>.oz 1 6 100013 1 (cI .u32) x1 (.ps 1 [.k [6] []] (.call [] [] (iW x1) .no fun x2=>.ret (x2,true)))))) Tryz.func163 (by kernel_rfl) (by kernel_rfl) (by kernel_rfl)
def Dv (a:List Int) (x0:List Int) (q:List Int) (r:List Int) (i:Int):St:=⟨45,0,[(0,SL (cI .u32) a),(7,SL (cI .u32) x0),(8,SL (cI .u32) q),(9,SL (cI .u32) r),(10,I i)],[]⟩
def Eo (a:List Int) (x0:List Int) (q:List Int) (r:List Int):St:=⟨45,0,[(8,SL (cI .u32) q),(9,SL (cI .u32) r)],[]⟩
def kE (a:List Int) (x0:List Int) (q:List Int) (r:List Int) (i:Int):Option ((List Int×List Int×Int)⊕(List Int×List Int)):=
 bif decide (i≥0) then
 (jM q 2 0).bind fun x1=>
 (Ll a i).bind fun x2=>
 (jM r 2 x2).bind fun x3=>
 (uV x3 x0).bind fun x4=>
 bif decide (x4≥0) then
 (uM x3 x0).bind fun x5=>
 (jM x1 1 1).bind fun x6=>
 bif inK .i64 (i-1) then
 some (.inl (x6,x5.1,i-1))
 else none
 else
 bif inK .i64 (i-1) then
 some (.inl (x1,x3,i-1))
 else none
 else
 some (.inr (q,r))
theorem U5 (a:List Int) (x0:List Int):∀σ:List Int×List Int×Int,aP Tryz.prog (nav [1,1,1,1,1,0,1,0,0] (ah Tryz.f217)) (fun (σ:List Int×List Int×Int)=>Dv a x0 σ.1 σ.2.1 σ.2.2) (fun (_:List Int×List Int)=>(.exit 0)) (fun (y:List Int×List Int)=>Eo a x0 y.1 y.2) σ (kE a x0 σ.1 σ.2.1 σ.2.2)
 | (q,r,i)=>aJ 1010 (.br 100000021 (.call [] [] (Bc q 2 0) .no fun x1=>.call [] [] (Y5 a i) .no fun x2=>.call [] [] (Bc r 2 x2) .no fun x3=>.call [] [] (BO x3 x0) .no fun x4=>.br 100000034 (.call [] [] (Ij x3 x0) .no fun x5=>.call [] [] (Bc x1 1 1) .no fun x6=>.ps 1000003 [.k [0,7,8,9,10] []] (.ret (.inl (x6,x5.1,i-1)))) (.ps 1000003 [.k [0,7,8,9,10] []] (.ret (.inl (x1,x3,i-1))))) (.ps 1000003 [.k [8,9] []] (.ret (.inr (q,r))))) (by kernel_rfl)
def EM (a:List Int) (x0:List Int) (q:List Int) (r:List Int) (i:Int):Option (List Int×List Int):=aI (fun (σ:List Int×List Int×Int)=>kE a x0 σ.1 σ.2.1 σ.2.2) FU (q,r,i)
theorem Vh (a:List Int) (x0:List Int) (q:List Int) (r:List Int) (i:Int):∀y:List Int×List Int,EM a x0 q r i=some y→Runs Tryz.prog (.loop (nav [1,1,1,1,1,0,1,0,0] (ah Tryz.f217))) (Dv a x0 q r i) ((.exit 0)) ((fun (y:List Int×List Int)=>Eo a x0 y.1 y.2) y):=
 bf (head:=fun (σ:List Int×List Int×Int)=>Dv a x0 σ.1 σ.2.1 σ.2.2) (eo:=fun (_:List Int×List Int)=>(.exit 0)) (so:=fun (y:List Int×List Int)=>Eo a x0 y.1 y.2) (U5 a x0) (fun _ h=>by cases h) FU (q,r,i)
def Cm (a:List Int) (b:List Int):Option (List Int×List Int×Bool):=
 (gU b).bind fun x0=>
 bif ((x0.length:Nat):Int)==0 then
 some ([],[],false)
 else
 bif inK .i64 (32*((a.length:Nat):Int)) then
 bif inK .i64 ((32*((a.length:Nat):Int))-1) then
 (EM a x0 [] [] ((32*((a.length:Nat):Int))-1)).bind fun x1=>
 some (x1.1,x1.2,true)
 else none
 else none
theorem Iw (a:List Int) (b:List Int):∀r,Cm a b=some r→aj Tryz.prog 217 0 [SL (cI .u32) a,SL (cI .u32) b] [] (.tup [SL (cI .u32) r.1,SL (cI .u32) r.2.1,B r.2.2]) []:=
 au (enc:=fun r=>.tup [SL (cI .u32) r.1,SL (cI .u32) r.2.1,B r.2.2]) (aQ:=fun r=>[]) 10 (.call [] [] (iW b) .no fun x0=>.op 20002 (.ln (cI .u32) x0) (.br 100000015 (.ps 1000003 [.n 4,.n 5] (.ret ([],[],false))) (.op 60002 (.ln (cI .u32) a) (.ps 1000001 [.n 8,.n 9,.k [0,7,8,9,10] []] (.lp1 0 (Vh a x0 [] [] ((32*((a.length:Nat):Int))-1)) fun x1=>.ret (x1.1,x1.2,true)))))) Tryz.func217 (by kernel_rfl) (by kernel_rfl) (by kernel_rfl)
def nN (a:List Int) (d:Int):Option (List Int×Int×Bool):=
 (Cm a [d]).bind fun x0=>
 bif ((x0.2.1.length:Nat):Int)==0 then
 some (x0.1,0,x0.2.2)
 else
 bif decide (0<x0.2.1.length) then
 some (x0.1,nth x0.2.1 0,x0.2.2)
 else none
theorem JE (a:List Int) (d:Int):∀r,nN a d=some r→aj Tryz.prog 193 0 [SL (cI .u32) a,NI .u32 d] [] (.tup [SL (cI .u32) r.1,NI .u32 r.2.1,B r.2.2]) []:=
 au (enc:=fun r=>.tup [SL (cI .u32) r.1,NI .u32 r.2.1,B r.2.2]) (aQ:=fun r=>[]) 10 (.call [] [] (Iw a [d]) .no fun x0=>.op 20002 (.ln (cI .u32) x0.2.1) (.br 100000020 (.ret (x0.1,0,x0.2.2)) (.op 40004 (.el (cI .u32) x0.2.1 (.up 0)) (.ret (x0.1,nth x0.2.1 0,x0.2.2))))) Tryz.func193 (by kernel_rfl) (by kernel_rfl) (by kernel_rfl)
def DY (a1:List Int) (n:Nat):St:=⟨25,0,[(0,SL (cI .u32) a1),(4,I ((n:Nat):Int))],[]⟩
def Ep (a1:List Int) (n:Nat):St:=⟨25,0,[(0,SL (cI .u32) a1),(4,I ((n:Nat):Int))],[]⟩
def jY (a1:List Int) (n:Nat):Option ((List Int×Nat)⊕(List Int×Nat)):=
 bif decide (((a1.length:Nat):Int)>0) then
 bif decide (0<a1.length) then
 bif decide (0≤nth a1 0) then
 bif decide (0<2) then
 bif ((nth a1 0)%2)==0 then
 (nN a1 2).bind fun x0=>
 bif inK .i64 (((n:Nat):Int)+1) then
 some (.inl (x0.1,n+1))
 else none
 else
 some (.inr (a1,n))
 else none
 else none
 else none
 else
 some (.inr (a1,n))
theorem U7:∀σ:List Int×Nat,aP Tryz.prog (nav [1,1,0,0,0] (ah Tryz.f267)) (fun (σ:List Int×Nat)=>DY σ.1 σ.2) (fun (_:List Int×Nat)=>(.exit 0)) (fun (y:List Int×Nat)=>Ep y.1 y.2) σ (jY σ.1 σ.2)
 | (a1,n)=>aJ 1010 (.op 20002 (.ln (cI .u32) a1) (.br 20008 (.op 20010 (.el (cI .u32) a1 (.up 0)) (.br 100000014 (.call [] [] (JE a1 2) .no fun x0=>.ps 1000003 [.k [0,4] []] (.ret (.inl (x0.1,n+1)))) (.ps 1000003 [.k [0,4] []] (.ret (.inr (a1,n)))))) (.ps 1000003 [.k [0,4] []] (.ret (.inr (a1,n)))))) (by kernel_rfl)
def JU (a1:List Int) (n:Nat):Option (List Int×Nat):=aI (fun (σ:List Int×Nat)=>jY σ.1 σ.2) FU (a1,n)
theorem UA (a1:List Int) (n:Nat):∀y:List Int×Nat,JU a1 n=some y→Runs Tryz.prog (.loop (nav [1,1,0,0,0] (ah Tryz.f267))) (DY a1 n) ((.exit 0)) ((fun (y:List Int×Nat)=>Ep y.1 y.2) y):=
 bf (head:=fun (σ:List Int×Nat)=>DY σ.1 σ.2) (eo:=fun (_:List Int×Nat)=>(.exit 0)) (so:=fun (y:List Int×Nat)=>Ep y.1 y.2) (U7) (fun _ h=>by cases h) FU (a1,n)
def yg (a:List Int):Option (List Int×Int):=
 (JU a 0).bind fun x0=>
 some (x0.1,((x0.2:Nat):Int))
theorem BQ (a:List Int):∀r,yg a=some r→aj Tryz.prog 267 0 [SL (cI .u32) a] [] (.tup [SL (cI .u32) r.1,I r.2]) []:=
 au (enc:=fun r=>.tup [SL (cI .u32) r.1,I r.2]) (aQ:=fun r=>[]) 10 (.ps 1000001 [.k [0,4] []] (.lp1 0 (UA a 0) fun x0=>.ret (x0.1,((x0.2:Nat):Int)))) Tryz.func267 (by kernel_rfl) (by kernel_rfl) (by kernel_rfl)
def Eb (x2:List Int×Int) (x3:List Int×Int) (x:List Int) (y1:List Int):St:=⟨59,0,[(5,SL (cI .u32) x),(6,SL (cI .u32) y1),(7,I x2.2),(8,I x3.2)],[]⟩
def En (x2:List Int×Int) (x3:List Int×Int) (x:List Int):St:=⟨59,0,[(5,SL (cI .u32) x),(7,I x2.2),(8,I x3.2)],[]⟩
def mV (x2:List Int×Int) (x3:List Int×Int) (x:List Int) (y1:List Int):Option ((List Int×List Int)⊕(List Int)):=
 (uV x y1).bind fun x4=>
 bif x4 != 0 then
 (uV x y1).bind fun x5=>
 bif decide (x5<0) then
 (uM y1 x).bind fun x6=>
 (yg x6.1).bind fun x7=>
 some (.inl (x7.1,x))
 else
 (uM x y1).bind fun x6=>
 (yg x6.1).bind fun x7=>
 some (.inl (x7.1,y1))
 else
 some (.inr x)
theorem U8 (x2:List Int×Int) (x3:List Int×Int):∀σ:List Int×List Int,aP Tryz.prog (nav [1,1,1,1,1,1,1,0,0,0] (ah Tryz.f216)) (fun (σ:List Int×List Int)=>Eb x2 x3 σ.1 σ.2) (fun (_:List Int)=>(.exit 0)) (fun (y:List Int)=>En x2 x3 y) σ (mV x2 x3 σ.1 σ.2)
 | (x,y1)=>aJ 1010 (.call [] [] (BO x y1) .no fun x4=>.br 100000035 (.call [] [] (BO x y1) .no fun x5=>.br 100000039 (.call [] [] (Ij y1 x) .no fun x6=>.call [] [] (BQ x6.1) .no fun x7=>.ps 1000003 [.k [5,6,7,8] []] (.ret (.inl (x7.1,x)))) (.call [] [] (Ij x y1) .no fun x6=>.call [] [] (BQ x6.1) .no fun x7=>.ps 1000003 [.k [5,6,7,8] []] (.ret (.inl (x7.1,y1))))) (.ps 1000003 [.k [5,7,8] []] (.ret (.inr x)))) (by kernel_rfl)
def KH (x2:List Int×Int) (x3:List Int×Int) (x:List Int) (y1:List Int):Option (List Int):=aI (fun (σ:List Int×List Int)=>mV x2 x3 σ.1 σ.2) FU (x,y1)
theorem WI (x2:List Int×Int) (x3:List Int×Int) (x:List Int) (y1:List Int):∀y:List Int,KH x2 x3 x y1=some y→Runs Tryz.prog (.loop (nav [1,1,1,1,1,1,1,0,0,0] (ah Tryz.f216))) (Eb x2 x3 x y1) ((.exit 0)) ((fun (y:List Int)=>En x2 x3 y) y):=
 bf (head:=fun (σ:List Int×List Int)=>Eb x2 x3 σ.1 σ.2) (eo:=fun (_:List Int)=>(.exit 0)) (so:=fun (y:List Int)=>En x2 x3 y) (U8 x2 x3) (fun _ h=>by cases h) FU (x,y1)
def yw (n:Int) (out:List Int) (i:Nat):St:=⟨26,0,[(1,I n),(5,SL (cI .u32) out),(6,I ((i:Nat):Int))],[]⟩
def xO (n:Int) (out:List Int):St:=⟨26,0,[(5,SL (cI .u32) out)],[]⟩
def nD (n:Int) (out:List Int) (i:Nat):Option ((List Int×Nat)⊕(List Int)):=
 bif decide (((i:Nat):Int)<n) then
 bif decide (((i:Nat):Int)<100000) then
 bif decide (((out.length:Nat):Int)>0) then
 (jM out 2 0).bind fun x1=>
 bif inK .i64 (((i:Nat):Int)+1) then
 some (.inl (x1,i+1))
 else none
 else
 some (.inr out)
 else
 some (.inr out)
 else
 some (.inr out)
theorem Rh (n:Int):∀σ:List Int×Nat,aP Tryz.prog (nav [1,1,0,1,0,0] (ah Tryz.f268)) (fun (σ:List Int×Nat)=>yw n σ.1 σ.2) (fun (_:List Int)=>(.exit 0)) (fun (y:List Int)=>xO n y) σ (nD n σ.1 σ.2)
 | (out,i)=>aJ 1010 (.br 30008 (.br 30016 (.op 30018 (.ln (cI .u32) out) (.br 100000020 (.call [] [] (Bc out 2 0) .no fun x1=>.ps 1000003 [.k [1,5,6] []] (.ret (.inl (x1,i+1)))) (.ps 1000003 [.k [5] []] (.ret (.inr out))))) (.ps 1000003 [.k [5] []] (.ret (.inr out)))) (.ps 1000003 [.k [5] []] (.ret (.inr out)))) (by kernel_rfl)
def yO (n:Int) (out:List Int) (i:Nat):Option (List Int):=aI (fun (σ:List Int×Nat)=>nD n σ.1 σ.2) FU (out,i)
theorem Q5 (n:Int) (out:List Int) (i:Nat):∀y:List Int,yO n out i=some y→Runs Tryz.prog (.loop (nav [1,1,0,1,0,0] (ah Tryz.f268))) (yw n out i) ((.exit 0)) ((fun (y:List Int)=>xO n y) y):=
 bf (head:=fun (σ:List Int×Nat)=>yw n σ.1 σ.2) (eo:=fun (_:List Int)=>(.exit 0)) (so:=fun (y:List Int)=>xO n y) (Rh n) (fun _ h=>by cases h) FU (out,i)
def EW (a:List Int) (n:Int):Option (List Int):=
 (gU a).bind fun x0=>
 (yO n x0 0).bind fun x1=>
 some x1
theorem Vf (a:List Int) (n:Int):∀r,EW a n=some r→aj Tryz.prog 268 0 [SL (cI .u32) a,I n] [] (SL (cI .u32) r) []:=
 au (enc:=fun r=>SL (cI .u32) r) (aQ:=fun r=>[]) 10 (.call [] [] (iW a) .no fun x0=>.ps 1000001 [.k [1,5,6] []] (.lp1 0 (Q5 n x0 0) fun x1=>.ret x1)) Tryz.func268 (by kernel_rfl) (by kernel_rfl) (by kernel_rfl)
def Cb (a:List Int) (b:List Int):Option (List Int):=
 (gU a).bind fun x0=>
 (gU b).bind fun x1=>
 bif ((x0.length:Nat):Int)==0 then
 some x1
 else
 bif ((x1.length:Nat):Int)==0 then
 some x0
 else
 (yg x0).bind fun x2=>
 (yg x1).bind fun x3=>
 (KH x2 x3 x2.1 x3.1).bind fun x4=>
 (EW x4 (mnI x2.2 x3.2)).bind fun x5=>
 some x5
theorem YM (a:List Int) (b:List Int):∀r,Cb a b=some r→aj Tryz.prog 216 0 [SL (cI .u32) a,SL (cI .u32) b] [] (SL (cI .u32) r) []:=
 au (enc:=fun r=>SL (cI .u32) r) (aQ:=fun r=>[]) 10 (.call [] [] (iW a) .no fun x0=>.call [] [] (iW b) .no fun x1=>.op 30002 (.ln (cI .u32) x0) (.br 100000016 (.ret x1) (.op 50002 (.ln (cI .u32) x1) (.br 100000020 (.ret x0) (.call [] [] (BQ x0) .no fun x2=>.call [] [] (BQ x1) .no fun x3=>.ps 1000001 [.k [5,6,7,8] []] (.lp1 0 (WI x2 x3 x2.1 x3.1) fun x4=>.call [] [] (Vf x4 (mnI x2.2 x3.2)) .no fun x5=>.ret x5)))))) Tryz.func216 (by kernel_rfl) (by kernel_rfl) (by kernel_rfl)
def wF (a:List Int) (b:List Int):Option (List Int×List Int×Bool):=
 (gU b).bind fun x0=>
 bif ((x0.length:Nat):Int)==0 then
 some ([],[],false)
 else
 (Cb a x0).bind fun x1=>
 (Cm a x1).bind fun x2=>
 (Cm x0 x1).bind fun x3=>
 some (x2.1,x3.1,true)
theorem SY (a:List Int) (b:List Int):∀r,wF a b=some r→aj Tryz.prog 158 0 [SL (cI .u32) a,SL (cI .u32) b] [] (.tup [SL (cI .u32) r.1,SL (cI .u32) r.2.1,B r.2.2]) []:=
 au (enc:=fun r=>.tup [SL (cI .u32) r.1,SL (cI .u32) r.2.1,B r.2.2]) (aQ:=fun r=>[]) 10 (.call [] [] (iW b) .no fun x0=>.op 20002 (.ln (cI .u32) x0) (.br 100000016 (.ps 1000003 [.n 4,.n 5] (.ret ([],[],false))) (.call [] [] (YM a x0) .no fun x1=>.call [] [] (Iw a x1) .no fun x2=>.call [] [] (Iw x0 x1) .no fun x3=>.ret (x2.1,x3.1,true)))) Tryz.func158 (by kernel_rfl) (by kernel_rfl) (by kernel_rfl)
def lV (n:Whole) (d:List Int):Option Rat:=
 (wF n.Mag d).bind fun x0=>
 bif !x0.2.2 then
 some (Rat.mk false [] [1])
 else
 bif ((x0.1.length:Nat):Int)==0 then
 some (Rat.mk false [] [1])
 else
 some (Rat.mk n.Neg x0.1 x0.2.1)
theorem Aj (n:Whole) (d:List Int):∀r,lV n d=some r→aj Tryz.prog 96 0 [AG Whole.D n,SL (cI .u32) d] [] (AG Rat.D r) []:=
 au (enc:=fun r=>AG Rat.D r) (aQ:=fun r=>[]) 10 (.call [] [] (SY n.Mag d) .no fun x0=>.br 20006 (.ps 1000003 [.b 11] (.ret (Rat.mk false [] [1]))) (.op 20008 (.ln (cI .u32) x0.1) (.br 100000022 (.ps 1000003 [.b 11] (.ret (Rat.mk false [] [1]))) (.ret (Rat.mk n.Neg x0.1 x0.2.1))))) Tryz.func96 (by kernel_rfl) (by kernel_rfl) (by kernel_rfl)
def nX (n:Int) (d:Int):Option Rat:=
 bif inK .i64 n then
 (F8 n).bind fun x0=>
 bif inK .u32 d then
 (lV x0 [IntKind.wrap .u32 (d+1)]).bind fun x1=>
 some x1
 else none
 else none
theorem kG (n:Int) (d:Int):∀r,nX n d=some r→aj Tryz.prog 65 0 [NI .i8 n,NI .u8 d] [] (AG Rat.D r) []:=
 au (enc:=fun r=>AG Rat.D r) (aQ:=fun r=>[]) 10 (.call [] [] (Sl n) .no fun x0=>.call [] [] (Aj x0 [IntKind.wrap .u32 (d+1)]) .no fun x1=>.ret x1) Tryz.func65 (by kernel_rfl) (by kernel_rfl) (by kernel_rfl)
def ET (g:Graph):Option Bool:=
 bif decide (g.Ins≥1) then
 bif decide (g.Ins≤40) then
 bif decide (g.aB≥1) then
 bif decide (g.aB≤40) then
 bif decide (g.bg≥0) then
 some (decide (g.bg≤400))
 else
 some false
 else
 some false
 else
 some false
 else
 some false
 else
 some false
theorem V5 (g:Graph):∀r,ET g=some r→aj Tryz.prog 106 0 [AG Graph.D g] [] (B r) []:=
 au (enc:=fun r=>B r) (aQ:=fun r=>[]) 10 (.br 10008 (.br 10018 (.br 10028 (.br 10038 (.br 10048 (.ret (decide (g.bg≤400))) (.ret false)) (.ret false)) (.ret false)) (.ret false)) (.ret false)) Tryz.func106 (by kernel_rfl) (by kernel_rfl) (by kernel_rfl)
def KY (g:Graph) (v:Int):Option Bool:=
 bif decide (v≥g.Ins) then
 bif inK .i64 (g.Ins+g.bg) then
 some (decide (v<(g.Ins+g.bg)))
 else none
 else
 some false
theorem Y4 (g:Graph) (v:Int):∀r,KY g v=some r→aj Tryz.prog 168 0 [AG Graph.D g,I v] [] (B r) []:=
 au (enc:=fun r=>B r) (aQ:=fun r=>[]) 10 (.br 10010 (.ret (decide (v<(g.Ins+g.bg)))) (.ret false)) Tryz.func168 (by kernel_rfl) (by kernel_rfl) (by kernel_rfl)
def AL (g:Graph) (i:Nat):St:=⟨32,0,[(1,.ptr 10 0 0),(6,SL (cI .i64) g.Gone),(7,I ((g.Gone.length:Nat):Int)),(8,I ((i:Nat):Int))],[(10,BOX [I g.Ins,I g.bg,I g.aB,SL Edge.D g.Edges,SL (cI .i64) g.Gone])]⟩
def Ae (g:Graph):St:=⟨32,0,[(2,B false)],[]⟩
def zZ (g:Graph):St:=⟨32,0,[],[]⟩
def kS (g:Graph) (i:Nat):Option (Nat⊕(Unit⊕Unit)):=
 bif decide (((i:Nat):Int)<((g.Gone.length:Nat):Int)) then
 bif decide (i<g.Gone.length) then
 (KY g (nth g.Gone i)).bind fun x0=>
 bif !x0 then
 some (.inr (.inl ()))
 else
 bif decide (((i:Nat):Int)>0) then
 bif inK .i64 (((i:Nat):Int)-1) then
 bif decide (0≤((i:Nat):Int)-1) then
 bif decide ((((i:Nat):Int)-1).toNat<g.Gone.length) then
 bif decide ((nth g.Gone i)≤(nth g.Gone ((((i:Nat):Int)-1).toNat))) then
 some (.inr (.inl ()))
 else
 bif inK .i64 (((i:Nat):Int)+1) then
 some (.inl (i+1))
 else none
 else none
 else none
 else none
 else
 bif inK .i64 (((i:Nat):Int)+1) then
 some (.inl (i+1))
 else none
 else none
 else
 some (.inr (.inr ()))
theorem SK (g:Graph):∀σ:Nat,aP Tryz.prog (nav [1,0,1,0,0] (ah Tryz.f107)) (fun (σ:Nat)=>AL g σ) (fun (y:Unit⊕Unit)=>aK y (fun _=>.ret) (fun _=>(.exit 0))) (fun (y:Unit⊕Unit)=>aK y (fun y=>Ae g) (fun y=>zZ g)) σ (kS g σ)
 | i=>aJ 1010 (.br 100000009 (.op 30002 (.el (cI .i64) g.Gone (.up i)) (.call [] [] (Y4 g (nth g.Gone i)) .no fun x0=>.br 40010 (.ps 1000003 [.k [2] []] (.ret (.inr (.inl ())))) (.br 40016 (.op 40026 (.el (cI .i64) g.Gone .dn) (.br 100000030 (.ps 1000003 [.k [2] []] (.ret (.inr (.inl ())))) (.ps 1000003 [.k [1,6,7,8] [10]] (.ret (.inl (i+1)))))) (.ps 1000003 [.k [1,6,7,8] [10]] (.ret (.inl (i+1))))))) (.ps 1000003 [.k [] []] (.ret (.inr (.inr ()))))) (by kernel_rfl)
def Bv (g:Graph) (i:Nat):Option (Unit⊕Unit):=aI (fun (σ:Nat)=>kS g σ) FU i
theorem TJ (g:Graph) (i:Nat):∀y:Unit⊕Unit,Bv g i=some y→Runs Tryz.prog (.loop (nav [1,0,1,0,0] (ah Tryz.f107))) (AL g i) (aK y (fun _=>.ret) (fun _=>(.exit 0))) ((fun (y:Unit⊕Unit)=>aK y (fun y=>Ae g) (fun y=>zZ g)) y):=
 bf (head:=fun (σ:Nat)=>AL g σ) (eo:=fun (y:Unit⊕Unit)=>aK y (fun _=>.ret) (fun _=>(.exit 0))) (so:=fun (y:Unit⊕Unit)=>aK y (fun y=>Ae g) (fun y=>zZ g)) (SK g) (fun y h=>by rcases y with y | y<;>cases h) FU i
def Hu (g:Graph):Option Bool:=
 (Bv g 0).bind fun y_=>aK y_ (fun x0=>
 some false)
 (fun x1=>
 some true)
theorem Xt (g:Graph):∀r,Hu g=some r→aj Tryz.prog 107 0 [AG Graph.D g] [] (B r) []:=
 au (enc:=fun r=>B r) (aQ:=fun r=>[]) 10 (.op 10004 (.ln (cI .i64) g.Gone) (.ps 1000001 [.k [1,6,7,8] [10]] (.lp2 0 (TJ g 0) (fun x0=>.ret false) (fun x1=>.ret true)))) Tryz.func107 (by kernel_rfl) (by kernel_rfl) (by kernel_rfl)
def kR (s:List Int) (v:Int) (i:Nat):St:=⟨19,0,[(0,SL (cI .i64) s),(1,I v),(7,I ((s.length:Nat):Int)),(8,I ((i:Nat):Int))],[]⟩
def kP (s:List Int) (v:Int) (i:Nat):St:=⟨19,0,[(4,I ((i:Nat):Int))],[]⟩
def kN (s:List Int) (v:Int):St:=⟨19,0,[],[]⟩
def bJ (s:List Int) (v:Int) (i:Nat):Option (Nat⊕(Nat⊕Unit)):=
 bif decide (((i:Nat):Int)<((s.length:Nat):Int)) then
 bif decide (i<s.length) then
 bif v==(nth s i) then
 some (.inr (.inl i))
 else
 bif inK .i64 (((i:Nat):Int)+1) then
 some (.inl (i+1))
 else none
 else none
 else
 some (.inr (.inr ()))
theorem EF (s:List Int) (v:Int):∀σ:Nat,aP Tryz.prog (nav [1,0,1,0,0] (ah Tryz.f136)) (fun (σ:Nat)=>kR s v σ) (fun (y:Nat⊕Unit)=>aK y (fun _=>.ret) (fun _=>(.exit 0))) (fun (y:Nat⊕Unit)=>aK y (fun y=>kP s v y) (fun y=>kN s v)) σ (bJ s v σ)
 | i=>aJ 1010 (.br 100000009 (.op 40006 (.el (cI .i64) s (.up i)) (.br 100000016 (.ps 1000003 [.k [4] []] (.ret (.inr (.inl i)))) (.ps 1000003 [.k [0,1,7,8] []] (.ret (.inl (i+1)))))) (.ps 1000003 [.k [] []] (.ret (.inr (.inr ()))))) (by kernel_rfl)
def eP (s:List Int) (v:Int) (i:Nat):Option (Nat⊕Unit):=aI (fun (σ:Nat)=>bJ s v σ) FU i
theorem ED (s:List Int) (v:Int) (i:Nat):∀y:Nat⊕Unit,eP s v i=some y→Runs Tryz.prog (.loop (nav [1,0,1,0,0] (ah Tryz.f136))) (kR s v i) (aK y (fun _=>.ret) (fun _=>(.exit 0))) ((fun (y:Nat⊕Unit)=>aK y (fun y=>kP s v y) (fun y=>kN s v)) y):=
 bf (head:=fun (σ:Nat)=>kR s v σ) (eo:=fun (y:Nat⊕Unit)=>aK y (fun _=>.ret) (fun _=>(.exit 0))) (so:=fun (y:Nat⊕Unit)=>aK y (fun y=>kP s v y) (fun y=>kN s v)) (EF s v) (fun y h=>by rcases y with y | y<;>cases h) FU i
def je (s:List Int) (v:Int):Option Int:=
 (eP s v 0).bind fun y_=>aK y_ (fun x0=>
 some ((x0:Nat):Int))
 (fun x1=>
 some (-1))
theorem Gh (s:List Int) (v:Int):∀r,je s v=some r→aj Tryz.prog 136 0 [SL (cI .i64) s,I v] [] (I r) []:=
 au (enc:=fun r=>I r) (aQ:=fun r=>[]) 10 (.op 10002 (.ln (cI .i64) s) (.ps 1000001 [.k [0,1,7,8] []] (.lp2 0 (ED s v 0) (fun x0=>.ret ((x0:Nat):Int)) (fun x1=>.ret (-1))))) Tryz.func136 (by kernel_rfl) (by kernel_rfl) (by kernel_rfl)
def dI (s:List Int) (v:Int):Option Bool:=
 (je s v).bind fun x0=>
 some (decide (x0≥0))
theorem gG (s:List Int) (v:Int):∀r,dI s v=some r→aj Tryz.prog 70 0 [SL (cI .i64) s,I v] [] (B r) []:=
 au (enc:=fun r=>B r) (aQ:=fun r=>[]) 10 (.call [] [] (Gh s v) .no fun x0=>.ret (decide (x0≥0))) Tryz.func70 (by kernel_rfl) (by kernel_rfl) (by kernel_rfl)
def uN (a:Edge) (b:Edge):Option Int:=
 (cmp_Compare_int a.From b.From).bind fun x0=>
 (cmp_Compare_int a.To b.To).bind fun x1=>
 (tN [x0,x1]).bind fun x2=>
 some x2
theorem JC (a:Edge) (b:Edge):∀r,uN a b=some r→aj Tryz.prog 103 0 [AG Edge.D a,AG Edge.D b] [] (I r) []:=
 au (enc:=fun r=>I r) (aQ:=fun r=>[]) 10 (.call [] [] (kC a.From b.From) .no fun x0=>.call [] [] (kC a.To b.To) .no fun x1=>.call [] [] (MF [x0,x1]) (.yes fun _=>⟨rfl,trivial⟩) fun x2=>.ret x2) Tryz.func103 (by kernel_rfl) (by kernel_rfl) (by kernel_rfl)
def wW (tA:Graph) (i:Nat):St:=⟨95,0,[(1,.ptr 10 0 0),(14,SL Edge.D tA.Edges),(15,I ((tA.Edges.length:Nat):Int)),(16,I ((i:Nat):Int))],[(10,BOX [I tA.Ins,I tA.bg,I tA.aB,SL Edge.D tA.Edges,SL (cI .i64) tA.Gone])]⟩
def xq (tA:Graph):St:=⟨95,0,[(2,B false)],[]⟩
def wY (tA:Graph):St:=⟨95,0,[],[]⟩
def bG (tA:Graph) (i:Nat):Option (Nat⊕(Unit⊕Unit)):=
 bif decide (((i:Nat):Int)<((tA.Edges.length:Nat):Int)) then
 bif decide (i<tA.Edges.length) then
 bif decide (((nth tA.Edges i).From)<0) then
 some (.inr (.inl ()))
 else
 bif inK .i64 (tA.Ins+tA.bg) then
 bif decide (((nth tA.Edges i).From)≥(tA.Ins+tA.bg)) then
 some (.inr (.inl ()))
 else
 bif decide (((nth tA.Edges i).To)<tA.Ins) then
 some (.inr (.inl ()))
 else
 bif inK .i64 (tA.Ins+tA.bg) then
 bif inK .i64 ((tA.Ins+tA.bg)+tA.aB) then
 bif decide (((nth tA.Edges i).To)≥((tA.Ins+tA.bg)+tA.aB)) then
 some (.inr (.inl ()))
 else
 bif decide (((nth tA.Edges i).From)≥((nth tA.Edges i).To)) then
 some (.inr (.inl ()))
 else
 (uY ((nth tA.Edges i).W)).bind fun x2=>
 bif !x2 then
 some (.inr (.inl ()))
 else
 bif decide (((i:Nat):Int)>0) then
 bif inK .i64 (((i:Nat):Int)-1) then
 bif decide (0≤((i:Nat):Int)-1) then
 bif decide ((((i:Nat):Int)-1).toNat<tA.Edges.length) then
 (uN (nth tA.Edges ((((i:Nat):Int)-1).toNat)) (nth tA.Edges i)).bind fun x3=>
 bif decide (x3≥0) then
 some (.inr (.inl ()))
 else
 (dI tA.Gone ((nth tA.Edges i).From)).bind fun x4=>
 bif x4 then
 some (.inr (.inl ()))
 else
 (dI tA.Gone ((nth tA.Edges i).To)).bind fun x5=>
 bif x5 then
 some (.inr (.inl ()))
 else
 bif inK .i64 (((i:Nat):Int)+1) then
 some (.inl (i+1))
 else none
 else none
 else none
 else none
 else
 (dI tA.Gone ((nth tA.Edges i).From)).bind fun x3=>
 bif x3 then
 some (.inr (.inl ()))
 else
 (dI tA.Gone ((nth tA.Edges i).To)).bind fun x4=>
 bif x4 then
 some (.inr (.inl ()))
 else
 bif inK .i64 (((i:Nat):Int)+1) then
 some (.inl (i+1))
 else none
 else none
 else none
 else none
 else none
 else
 some (.inr (.inr ()))
theorem Qr (tA:Graph):∀σ:Nat,aP Tryz.prog (nav [1,1,0,1,0,0] (ah Tryz.f45)) (fun (σ:Nat)=>wW tA σ) (fun (y:Unit⊕Unit)=>aK y (fun _=>.ret) (fun _=>(.exit 0))) (fun (y:Unit⊕Unit)=>aK y (fun y=>xq tA) (fun y=>wY tA)) σ (bG tA σ)
 | i=>aJ 1010 (.br 100000017 (.op 50002 (.el Edge.D tA.Edges (.up i)) (.br 60008 (.ps 1000003 [.k [2] []] (.ret (.inr (.inl ())))) (.br 60028 (.ps 1000003 [.k [2] []] (.ret (.inr (.inl ())))) (.br 60042 (.ps 1000003 [.k [2] []] (.ret (.inr (.inl ())))) (.br 60068 (.ps 1000003 [.k [2] []] (.ret (.inr (.inl ())))) (.br 100000060 (.ps 1000003 [.k [2] []] (.ret (.inr (.inl ())))) (.call [] [] (JV ((nth tA.Edges i).W)) .no fun x2=>.br 80010 (.ps 1000003 [.k [2] []] (.ret (.inr (.inl ())))) (.br 80016 (.op 80024 (.el Edge.D tA.Edges .dn) (.call [] [] (JC (nth tA.Edges ((((i:Nat):Int)-1).toNat)) (nth tA.Edges i)) .no fun x3=>.br 80040 (.ps 1000003 [.k [2] []] (.ret (.inr (.inl ())))) (.call [] [] (gG tA.Gone ((nth tA.Edges i).From)) .no fun x4=>.br 80054 (.ps 1000003 [.k [2] []] (.ret (.inr (.inl ())))) (.call [] [] (gG tA.Gone ((nth tA.Edges i).To)) .no fun x5=>.br 100000093 (.ps 1000003 [.k [2] []] (.ret (.inr (.inl ())))) (.ps 1000003 [.k [1,14,15,16] [10]] (.ret (.inl (i+1)))))))) (.call [] [] (gG tA.Gone ((nth tA.Edges i).From)) .no fun x3=>.br 80054 (.ps 1000003 [.k [2] []] (.ret (.inr (.inl ())))) (.call [] [] (gG tA.Gone ((nth tA.Edges i).To)) .no fun x4=>.br 100000093 (.ps 1000003 [.k [2] []] (.ret (.inr (.inl ())))) (.ps 1000003 [.k [1,14,15,16] [10]] (.ret (.inl (i+1)))))))))))))) (.ps 1000003 [.k [] []] (.ret (.inr (.inr ()))))) (by kernel_rfl)
def yG (tA:Graph) (i:Nat):Option (Unit⊕Unit):=aI (fun (σ:Nat)=>bG tA σ) FU i
theorem Qs (tA:Graph) (i:Nat):∀y:Unit⊕Unit,yG tA i=some y→Runs Tryz.prog (.loop (nav [1,1,0,1,0,0] (ah Tryz.f45))) (wW tA i) (aK y (fun _=>.ret) (fun _=>(.exit 0))) ((fun (y:Unit⊕Unit)=>aK y (fun y=>xq tA) (fun y=>wY tA)) y):=
 bf (head:=fun (σ:Nat)=>wW tA σ) (eo:=fun (y:Unit⊕Unit)=>aK y (fun _=>.ret) (fun _=>(.exit 0))) (so:=fun (y:Unit⊕Unit)=>aK y (fun y=>xq tA) (fun y=>wY tA)) (Qr tA) (fun y h=>by rcases y with y | y<;>cases h) FU i
def jI (tA:Graph):Option Bool:=
 (ET tA).bind fun x0=>
 bif !x0 then
 some false
 else
 (Hu tA).bind fun x1=>
 bif !x1 then
 some false
 else
 (yG tA 0).bind fun y_=>aK y_ (fun x2=>
 some false)
 (fun x3=>
 some true)
theorem mX (tA:Graph):∀r,jI tA=some r→aj Tryz.prog 45 0 [AG Graph.D tA] [] (B r) []:=
 au (enc:=fun r=>B r) (aQ:=fun r=>[]) 10 (.call [] [] (V5 tA) .no fun x0=>.br 10008 (.ret false) (.call [] [] (Xt tA) .no fun x1=>.br 100000012 (.ret false) (.op 30004 (.ln Edge.D tA.Edges) (.ps 1000001 [.k [1,14,15,16] [10]] (.lp2 0 (Qs tA 0) (fun x2=>.ret false) (fun x3=>.ret true)))))) Tryz.func45 (by kernel_rfl) (by kernel_rfl) (by kernel_rfl)
end Go.Ab.M
