import Derived.Test.YtpefcgiiigdcdaaGreatTC
namespace Go.Ab.M
open Go.Proofs
set_option linter.unusedVariables false
set_option maxRecDepth 100000
structure Whole where
 Neg:Bool
 Mag:List Int
 deriving DecidableEq,Inhabited
abbrev Whole.D (x:Whole):List D:=[.v (.bool x.Neg),.sl (x.Mag.map (cI .u32))]
structure Link where
 From:Int
 To:Int
 N:Int
 D_:Int
 deriving DecidableEq,Inhabited
abbrev Link.D (x:Link):List D:=[.v (.int .u8 x.From),.v (.int .u8 x.To),.v (.int .i8 x.N),.v (.int .u8 x.D_)]
structure Edge where
 From:Int
 To:Int
 W:Rat
 deriving DecidableEq,Inhabited
abbrev Edge.D (x:Edge):List D:=[.v (.int .i64 x.From)]++[.v (.int .i64 x.To)]++Rat.D x.W
structure Graph where
 Ins:Int
 bJ:Int
 aH:Int
 Edges:List Edge
 Gone:List Int
 deriving DecidableEq,Inhabited
abbrev Graph.D (x:Graph):List D:=[.v (.int .i64 x.Ins),.v (.int .i64 x.bJ),.v (.int .i64 x.aH),.sl (x.Edges.map Edge.D),.sl (x.Gone.map (cI .i64))]
def FM (n1:Int) (out:List Int):St:=⟨15,0,[(0,NI .u64 n1),(3,bZ 100010 out)],[(100010,dG 1 (cI .u32) out)]⟩
def FV (out:List Int):St:=⟨15,0,[(3,bZ 100010 out)],[(100010,dG 1 (cI .u32) out)]⟩
def sD (n1:Int) (out:List Int):Option ((Int×List Int)⊕(List Int)):=
 bif decide (n1>0) then
 bif decide (0≤n1) then
 bif decide (0<4294967296) then
 bif decide (out.length+1≤2147483648) then
 bif decide (0≤n1) then
 bif decide (0<4294967296) then
 bif decide (n1≤Go.Ab.hi .u64) then
 some (.inl (n1/4294967296,out++[IntKind.wrap .u32 (n1%4294967296)]))
 else none
 else none
 else none
 else none
 else none
 else none
 else
 some (.inr out)
theorem Xz:∀σ:Int×List Int,aJ Tryz.prog (nav [1,1,0,0,0] (ah Tryz.f155)) (fun (σ:Int×List Int)=>FM σ.1 σ.2) (fun (_:List Int)=>(.exit 0)) (fun (y:List Int)=>FV y) σ (sD σ.1 σ.2)
 | (n1,[])=>aB 1010 (.br 100000005 (.op 30006 .wr (.op 30010 (.ap (cI .u32) [] [IntKind.wrap .u32 (n1%4294967296)] 1 fun _=>⟨rfl,rfl⟩) (.ps 1000003 [.k [0,3] [1011],.m 1011 100010] (.ret (.inl (n1/4294967296,[IntKind.wrap .u32 (n1%4294967296)])))))) (.ps 1000003 [.k [3] [100010]] (.ret (.inr [])))) (by kernel_rfl)
 | (n1,dK::dM)=>aB 1010 (.br 100000005 (.op 30006 .wr (.op 30010 (.ap (cI .u32) (dK::dM) [IntKind.wrap .u32 (n1%4294967296)] 1 fun _=>⟨rfl,rfl⟩) (.ps 1000003 [.k [0,3] [1011],.m 1011 100010] (.ret (.inl (n1/4294967296,(dK::dM)++[IntKind.wrap .u32 (n1%4294967296)])))))) (.ps 1000003 [.k [3] [100010]] (.ret (.inr (dK::dM))))) (by kernel_rfl)
def Iq (n1:Int) (out:List Int):Option (List Int):=aK (fun (σ:Int×List Int)=>sD σ.1 σ.2) FU (n1,out)
theorem Xv (n1:Int) (out:List Int):∀y:List Int,Iq n1 out=some y→Runs Tryz.prog (.loop (nav [1,1,0,0,0] (ah Tryz.f155))) (FM n1 out) ((.exit 0)) ((fun (y:List Int)=>FV y) y):=
 aU (head:=fun (σ:Int×List Int)=>FM σ.1 σ.2) (eo:=fun (_:List Int)=>(.exit 0)) (so:=fun (y:List Int)=>FV y) (Xz) (fun _ h=>by cases h) FU (n1,out)
def JM (n:Int):Option (List Int):=
 (Iq n []).bind fun x0=>
 some x0
theorem Sl (n:Int):∀r,JM n=some r→aj Tryz.prog 155 0 [NI .u64 n] [] (SL (cI .u32) r) []:=
 ak (enc:=fun r=>SL (cI .u32) r) (aP:=fun r=>[]) 10 (.ps 1000001 [.k [0,3] [100010]] (.lp1 0 (Xv n []) fun x0=>.oz 1 3 100010 1 (cI .u32) x0 (.ps 1 [.k [3] []] (.ret x0)))) Tryz.func155 (by kernel_rfl) (by kernel_rfl) (by kernel_rfl)
def Gi (n:Int):Option Whole:=
 bif decide (n≥0) then
 (JM (IntKind.wrap .u64 n)).bind fun x0=>
 some (Whole.mk false x0)
 else
 (JM (IntKind.wrap .u64 (0-(IntKind.wrap .u64 n)))).bind fun x0=>
 some (Whole.mk true x0)
theorem RI (n:Int):∀r,Gi n=some r→aj Tryz.prog 101 0 [I n] [] (AG Whole.D r) []:=
 ak (enc:=fun r=>AG Whole.D r) (aP:=fun r=>[]) 10 (.br 100000005 (.op 20002 .wr (.call [] [] (Sl (IntKind.wrap .u64 n)) .no fun x0=>.ret (Whole.mk false x0))) (.op 30002 .wr (.call [] [] (Sl (IntKind.wrap .u64 (0-(IntKind.wrap .u64 n)))) .no fun x0=>.ret (Whole.mk true x0)))) Tryz.func101 (by kernel_rfl) (by kernel_rfl) (by kernel_rfl)
def DY (l:List Int) (n:Nat) (i:Nat):St:=⟨19,0,[(0,SL (cI .u32) l),(3,I ((n:Nat):Int)),(4,I ((i:Nat):Int))],[]⟩
def DK (l:List Int) (n:Nat):St:=⟨19,0,[(3,I ((n:Nat):Int))],[]⟩
def mO (l:List Int) (n:Nat) (i:Nat):Option ((Nat×Nat)⊕Nat):=
 bif decide (((i:Nat):Int)<((l.length:Nat):Int)) then
 bif decide (i<l.length) then
 bif (nth l i) != 0 then
 bif inK .i64 (((i:Nat):Int)+1) then
 bif inK .i64 (((i:Nat):Int)+1) then
 some (.inl (i+1,i+1))
 else none
 else none
 else
 bif inK .i64 (((i:Nat):Int)+1) then
 some (.inl (n,i+1))
 else none
 else none
 else
 some (.inr n)
theorem VA (l:List Int):∀σ:Nat×Nat,aJ Tryz.prog (nav [1,1,0,1,0,0] (ah Tryz.f233)) (fun (σ:Nat×Nat)=>DY l σ.1 σ.2) (fun (_:Nat)=>(.exit 0)) (fun (y:Nat)=>DK l y) σ (mO l σ.1 σ.2)
 | (n,i)=>aB 1010 (.op 30004 (.ln (cI .u32) l) (.br 100000008 (.op 50004 (.el (cI .u32) l (.up i)) (.br 100000015 (.ps 1000003 [.k [0,3,4] []] (.ret (.inl (i+1,i+1)))) (.ps 1000003 [.k [0,3,4] []] (.ret (.inl (n,i+1)))))) (.ps 1000003 [.k [3] []] (.ret (.inr n))))) (by kernel_rfl)
def EH (l:List Int) (n:Nat) (i:Nat):Option Nat:=aK (fun (σ:Nat×Nat)=>mO l σ.1 σ.2) FU (n,i)
theorem UL (l:List Int) (n:Nat) (i:Nat):∀y:Nat,EH l n i=some y→Runs Tryz.prog (.loop (nav [1,1,0,1,0,0] (ah Tryz.f233))) (DY l n i) ((.exit 0)) ((fun (y:Nat)=>DK l y) y):=
 aU (head:=fun (σ:Nat×Nat)=>DY l σ.1 σ.2) (eo:=fun (_:Nat)=>(.exit 0)) (so:=fun (y:Nat)=>DK l y) (VA l) (fun _ h=>by cases h) FU (n,i)
def KZ (l:List Int):Option Int:=
 (EH l 0 0).bind fun x0=>
 some ((x0:Nat):Int)
theorem Y4 (l:List Int):∀r,KZ l=some r→aj Tryz.prog 233 0 [SL (cI .u32) l] [] (I r) []:=
 ak (enc:=fun r=>I r) (aP:=fun r=>[]) 10 (.ps 1000001 [.k [0,3,4] []] (.lp1 0 (UL l 0 0) fun x0=>.ret ((x0:Nat):Int))) Tryz.func233 (by kernel_rfl) (by kernel_rfl) (by kernel_rfl)
def zJ (a:List Int) (x0:Int) (out:List Int) (i:Nat):St:=⟨21,0,[(0,SL (cI .u32) a),(3,I x0),(4,bZ 100011 out),(5,I ((i:Nat):Int))],[(100011,dG 1 (cI .u32) out)]⟩
def AB (a:List Int) (x0:Int) (out:List Int):St:=⟨21,0,[(4,bZ 100011 out)],[(100011,dG 1 (cI .u32) out)]⟩
def oC (a:List Int) (x0:Int) (out:List Int) (i:Nat):Option ((List Int×Nat)⊕(List Int)):=
 bif decide (((i:Nat):Int)<x0) then
 bif decide (i<a.length) then
 bif decide (out.length+1≤2147483648) then
 bif inK .i64 (((i:Nat):Int)+1) then
 some (.inl (out++[nth a i],i+1))
 else none
 else none
 else none
 else
 some (.inr out)
theorem Ud (a:List Int) (x0:Int):∀σ:List Int×Nat,aJ Tryz.prog (nav [1,1,1,0,1,0,0] (ah Tryz.f181)) (fun (σ:List Int×Nat)=>zJ a x0 σ.1 σ.2) (fun (_:List Int)=>(.exit 0)) (fun (y:List Int)=>AB a x0 y) σ (oC a x0 σ.1 σ.2)
 | ([],i)=>aB 1010 (.br 100000010 (.op 60006 (.el (cI .u32) a (.up i)) (.op 60012 (.ap (cI .u32) [] [nth a i] 1 fun _=>⟨rfl,rfl⟩) (.ps 1000003 [.k [0,3,4,5] [1011],.m 1011 100011] (.ret (.inl ([nth a i],i+1)))))) (.ps 1000003 [.k [4] [100011]] (.ret (.inr [])))) (by kernel_rfl)
 | (dK::dM,i)=>aB 1010 (.br 100000010 (.op 60006 (.el (cI .u32) a (.up i)) (.op 60012 (.ap (cI .u32) (dK::dM) [nth a i] 1 fun _=>⟨rfl,rfl⟩) (.ps 1000003 [.k [0,3,4,5] [1011],.m 1011 100011] (.ret (.inl ((dK::dM)++[nth a i],i+1)))))) (.ps 1000003 [.k [4] [100011]] (.ret (.inr (dK::dM))))) (by kernel_rfl)
def BL (a:List Int) (x0:Int) (out:List Int) (i:Nat):Option (List Int):=aK (fun (σ:List Int×Nat)=>oC a x0 σ.1 σ.2) FU (out,i)
theorem SE (a:List Int) (x0:Int) (out:List Int) (i:Nat):∀y:List Int,BL a x0 out i=some y→Runs Tryz.prog (.loop (nav [1,1,1,0,1,0,0] (ah Tryz.f181))) (zJ a x0 out i) ((.exit 0)) ((fun (y:List Int)=>AB a x0 y) y):=
 aU (head:=fun (σ:List Int×Nat)=>zJ a x0 σ.1 σ.2) (eo:=fun (_:List Int)=>(.exit 0)) (so:=fun (y:List Int)=>AB a x0 y) (Ud a x0) (fun _ h=>by cases h) FU (out,i)
def jl (a:List Int):Option (List Int):=
 (KZ a).bind fun x0=>
 (BL a x0 [] 0).bind fun x1=>
 some x1
theorem iQ (a:List Int):∀r,jl a=some r→aj Tryz.prog 181 0 [SL (cI .u32) a] [] (SL (cI .u32) r) []:=
 ak (enc:=fun r=>SL (cI .u32) r) (aP:=fun r=>[]) 10 (.call [] [] (Y4 a) .no fun x0=>.ps 1000001 [.k [0,3,4,5] [100011]] (.lp1 0 (SE a x0 [] 0) fun x1=>.oz 1 4 100011 1 (cI .u32) x1 (.ps 1 [.k [4] []] (.ret x1)))) Tryz.func181 (by kernel_rfl) (by kernel_rfl) (by kernel_rfl)
def CQ (a:List Int) (w:Int) (out:List Int) (carry:Int) (i:Nat):St:=⟨44,0,[(0,SL (cI .u32) a),(1,NI .u32 w),(7,bZ 100012 out),(8,NI .u64 carry),(9,I ((i:Nat):Int))],[(100012,dG 1 (cI .u32) out)]⟩
def Ef (a:List Int) (w:Int) (out:List Int) (carry:Int):St:=⟨44,0,[(7,bZ 100012 out),(8,NI .u64 carry)],[(100012,dG 1 (cI .u32) out)]⟩
def oV (a:List Int) (w:Int) (out:List Int) (carry:Int) (i:Nat):Option ((List Int×Int×Nat)⊕(List Int×Int)):=
 bif decide (((i:Nat):Int)<((a.length:Nat):Int)) then
 bif decide (i<a.length) then
 bif inK .u64 (nth a i) then
 bif inK .u64 w then
 bif decide (0≤IntKind.wrap .u64 ((IntKind.wrap .u64 ((nth a i)*w))+carry)) then
 bif decide (0<4294967296) then
 bif decide (out.length+1≤2147483648) then
 bif decide (0≤IntKind.wrap .u64 ((IntKind.wrap .u64 ((nth a i)*w))+carry)) then
 bif decide (0<4294967296) then
 bif decide (IntKind.wrap .u64 ((IntKind.wrap .u64 ((nth a i)*w))+carry)≤Go.Ab.hi .u64) then
 bif inK .i64 (((i:Nat):Int)+1) then
 some (.inl (out++[IntKind.wrap .u32 ((IntKind.wrap .u64 ((IntKind.wrap .u64 ((nth a i)*w))+carry))%4294967296)],(IntKind.wrap .u64 ((IntKind.wrap .u64 ((nth a i)*w))+carry))/4294967296,i+1))
 else none
 else none
 else none
 else none
 else none
 else none
 else none
 else none
 else none
 else none
 else
 some (.inr (out,carry))
theorem UH (a:List Int) (w:Int):∀σ:List Int×Int×Nat,aJ Tryz.prog (nav [1,1,1,0,1,0,0] (ah Tryz.f135)) (fun (σ:List Int×Int×Nat)=>CQ a w σ.1 σ.2.1 σ.2.2) (fun (_:List Int×Int)=>(.exit 0)) (fun (y:List Int×Int)=>Ef a w y.1 y.2) σ (oV a w σ.1 σ.2.1 σ.2.2)
 | ([],carry,i)=>aB 1010 (.op 40004 (.ln (cI .u32) a) (.br 100000016 (.op 60004 (.el (cI .u32) a (.up i)) (.op 70006 .wr (.op 70010 (.ap (cI .u32) [] [IntKind.wrap .u32 ((IntKind.wrap .u64 ((IntKind.wrap .u64 ((nth a i)*w))+carry))%4294967296)] 1 fun _=>⟨rfl,rfl⟩) (.ps 1000003 [.k [0,1,7,8,9] [1011],.m 1011 100012] (.ret (.inl ([IntKind.wrap .u32 ((IntKind.wrap .u64 ((IntKind.wrap .u64 ((nth a i)*w))+carry))%4294967296)],(IntKind.wrap .u64 ((IntKind.wrap .u64 ((nth a i)*w))+carry))/4294967296,i+1))))))) (.ps 1000003 [.k [7,8] [100012]] (.ret (.inr ([],carry)))))) (by kernel_rfl)
 | (dK::dM,carry,i)=>aB 1010 (.op 40004 (.ln (cI .u32) a) (.br 100000016 (.op 60004 (.el (cI .u32) a (.up i)) (.op 70006 .wr (.op 70010 (.ap (cI .u32) (dK::dM) [IntKind.wrap .u32 ((IntKind.wrap .u64 ((IntKind.wrap .u64 ((nth a i)*w))+carry))%4294967296)] 1 fun _=>⟨rfl,rfl⟩) (.ps 1000003 [.k [0,1,7,8,9] [1011],.m 1011 100012] (.ret (.inl ((dK::dM)++[IntKind.wrap .u32 ((IntKind.wrap .u64 ((IntKind.wrap .u64 ((nth a i)*w))+carry))%4294967296)],(IntKind.wrap .u64 ((IntKind.wrap .u64 ((nth a i)*w))+carry))/4294967296,i+1))))))) (.ps 1000003 [.k [7,8] [100012]] (.ret (.inr ((dK::dM),carry)))))) (by kernel_rfl)
def Et (a:List Int) (w:Int) (out:List Int) (carry:Int) (i:Nat):Option (List Int×Int):=aK (fun (σ:List Int×Int×Nat)=>oV a w σ.1 σ.2.1 σ.2.2) FU (out,carry,i)
theorem WQ (a:List Int) (w:Int) (out:List Int) (carry:Int) (i:Nat):∀y:List Int×Int,Et a w out carry i=some y→Runs Tryz.prog (.loop (nav [1,1,1,0,1,0,0] (ah Tryz.f135))) (CQ a w out carry i) ((.exit 0)) ((fun (y:List Int×Int)=>Ef a w y.1 y.2) y):=
 aU (head:=fun (σ:List Int×Int×Nat)=>CQ a w σ.1 σ.2.1 σ.2.2) (eo:=fun (_:List Int×Int)=>(.exit 0)) (so:=fun (y:List Int×Int)=>Ef a w y.1 y.2) (UH a w) (fun _ h=>by cases h) FU (out,carry,i)
def mQ (a:List Int) (w:Int) (c:Int):Option (List Int):=
 bif inK .u64 c then
 (Et a w [] c 0).bind fun x0=>
 bif x0.1.isEmpty then
 (jl [IntKind.wrap .u32 x0.2]).bind fun x1=>
 some x1
 else
 bif decide (x0.1.length+1≤2147483648) then
 (jl (x0.1++[IntKind.wrap .u32 x0.2])).bind fun x1=>
 some x1
 else none
 else none
theorem BR (a:List Int) (w:Int) (c:Int):∀r,mQ a w c=some r→aj Tryz.prog 135 0 [SL (cI .u32) a,NI .u32 w,NI .u32 c] [] (SL (cI .u32) r) []:=
 ak (enc:=fun r=>SL (cI .u32) r) (aP:=fun r=>[]) 10 (.ps 1000001 [.k [0,1,7,8,9] [100012]] (.lp1 0 (WQ a w [] c 0) fun x0=>.cl 1 7 100012 1 (cI .u32) x0.1 (.ps 1 [.k [7,8] []] (.op 90004 .wr (.op 90008 (.ap (cI .u32) [] [IntKind.wrap .u32 x0.2] 1 fun _=>⟨rfl,rfl⟩) (.call [] [] (iQ [IntKind.wrap .u32 x0.2]) .no fun x1=>.ret x1)))) (.ps 1 [.k [7,8] [100012]] (.op 90004 .wr (.op 90008 (.ap (cI .u32) x0.1 [IntKind.wrap .u32 x0.2] 1 fun _=>⟨rfl,rfl⟩) (.call [] [] (iQ (x0.1++[IntKind.wrap .u32 x0.2])) .no fun x1=>.ret x1)))))) Tryz.func135 (by kernel_rfl) (by kernel_rfl) (by kernel_rfl)
def Ls (a:List Int) (i:Int):Option Int:=
 bif decide (0≤i) then
 bif decide (0<32) then
 bif decide (i≤Go.Ab.hi .i64) then
 bif decide (0≤i/32) then
 bif decide ((i/32).toNat<a.length) then
 bif decide (0≤i) then
 bif decide (0<32) then
 bif decide (0≤i%32) then
 some (abC .u32 (bn .u32 (nth a ((i/32).toNat)) (i%32)) 1)
 else none
 else none
 else none
 else none
 else none
 else none
 else none
 else none
theorem Yr (a:List Int) (i:Int):∀r,Ls a i=some r→aj Tryz.prog 236 0 [SL (cI .u32) a,I i] [] (NI .u32 r) []:=
 ak (enc:=fun r=>NI .u32 r) (aP:=fun r=>[]) 10 (.op 10006 (.el (cI .u32) a .dn) (.ret (abC .u32 (bn .u32 (nth a ((i/32).toNat)) (i%32)) 1))) Tryz.func236 (by kernel_rfl) (by kernel_rfl) (by kernel_rfl)
def sJ (a:List Int) (i:Int):Option Int:=
 bif decide (i<0) then
 some 0
 else
 bif decide (i≥((a.length:Nat):Int)) then
 some 0
 else
 bif decide (0≤i) then
 bif decide (i.toNat<a.length) then
 bif inK .u64 (nth a i.toNat) then
 some (nth a i.toNat)
 else none
 else none
 else none
theorem ni (a:List Int) (i:Int):∀r,sJ a i=some r→aj Tryz.prog 185 0 [SL (cI .u32) a,I i] [] (NI .u64 r) []:=
 ak (enc:=fun r=>NI .u64 r) (aP:=fun r=>[]) 10 (.br 10006 (.ret 0) (.op 10010 (.ln (cI .u32) a) (.br 100000012 (.ret 0) (.op 30004 (.el (cI .u32) a .dn) (.ret (nth a i.toNat)))))) Tryz.func185 (by kernel_rfl) (by kernel_rfl) (by kernel_rfl)
def Di (a:List Int) (b:List Int) (i:Int):St:=⟨32,0,[(0,SL (cI .u32) a),(1,SL (cI .u32) b),(6,I i)],[]⟩
def Eb (a:List Int) (b:List Int) (i:Int):St:=⟨32,0,[(4,I i)],[]⟩
def Dh (a:List Int) (b:List Int):St:=⟨32,0,[],[]⟩
def mJ (a:List Int) (b:List Int) (i:Int):Option (Int⊕(Int⊕Unit)):=
 bif decide (i≥0) then
 (sJ a i).bind fun x0=>
 (sJ b i).bind fun x1=>
 bif decide (x0<x1) then
 some (.inr (.inl (-1)))
 else
 (sJ a i).bind fun x2=>
 (sJ b i).bind fun x3=>
 bif decide (x2>x3) then
 some (.inr (.inl 1))
 else
 bif inK .i64 (i-1) then
 some (.inl (i-1))
 else none
 else
 some (.inr (.inr ()))
theorem Vy (a:List Int) (b:List Int):∀σ:Int,aJ Tryz.prog (nav [1,1,0,1,0,0] (ah Tryz.f132)) (fun (σ:Int)=>Di a b σ) (fun (y:Int⊕Unit)=>aN y (fun _=>.ret) (fun _=>(.exit 0))) (fun (y:Int⊕Unit)=>aN y (fun y=>Eb a b y) (fun y=>Dh a b)) σ (mJ a b σ)
 | i=>aB 1010 (.br 100000015 (.call [] [] (ni a i) .no fun x0=>.call [] [] (ni b i) .no fun x1=>.br 100000024 (.ps 1000003 [.k [4] []] (.ret (.inr (.inl (-1))))) (.call [] [] (ni a i) .no fun x2=>.call [] [] (ni b i) .no fun x3=>.br 100000031 (.ps 1000003 [.k [4] []] (.ret (.inr (.inl 1)))) (.ps 1000003 [.k [0,1,6] []] (.ret (.inl (i-1)))))) (.ps 1000003 [.k [] []] (.ret (.inr (.inr ()))))) (by kernel_rfl)
def Jh (a:List Int) (b:List Int) (i:Int):Option (Int⊕Unit):=aK (fun (σ:Int)=>mJ a b σ) FU i
theorem U6 (a:List Int) (b:List Int) (i:Int):∀y:Int⊕Unit,Jh a b i=some y→Runs Tryz.prog (.loop (nav [1,1,0,1,0,0] (ah Tryz.f132))) (Di a b i) (aN y (fun _=>.ret) (fun _=>(.exit 0))) ((fun (y:Int⊕Unit)=>aN y (fun y=>Eb a b y) (fun y=>Dh a b)) y):=
 aU (head:=fun (σ:Int)=>Di a b σ) (eo:=fun (y:Int⊕Unit)=>aN y (fun _=>.ret) (fun _=>(.exit 0))) (so:=fun (y:Int⊕Unit)=>aN y (fun y=>Eb a b y) (fun y=>Dh a b)) (Vy a b) (fun y h=>by rcases y with y | y<;>cases h) FU i
def wP (a:List Int) (b:List Int):Option Int:=
 bif inK .i64 ((mxI ((a.length:Nat):Int) ((b.length:Nat):Int))-1) then
 (Jh a b ((mxI ((a.length:Nat):Int) ((b.length:Nat):Int))-1)).bind fun y_=>aN y_ (fun x0=>
 some x0)
 (fun x1=>
 some 0)
 else none
theorem Ba (a:List Int) (b:List Int):∀r,wP a b=some r→aj Tryz.prog 132 0 [SL (cI .u32) a,SL (cI .u32) b] [] (I r) []:=
 ak (enc:=fun r=>I r) (aP:=fun r=>[]) 10 (.op 10002 (.ln (cI .u32) a) (.op 10006 (.ln (cI .u32) b) (.ps 1000001 [.k [0,1,6] []] (.lp2 0 (U6 a b ((mxI ((a.length:Nat):Int) ((b.length:Nat):Int))-1)) (fun x0=>.ret x0) (fun x1=>.ret 0))))) Tryz.func132 (by kernel_rfl) (by kernel_rfl) (by kernel_rfl)
def DR (a:List Int) (b:List Int) (out:List Int) (borrow:Int) (i:Nat):St:=⟨41,0,[(0,SL (cI .u32) a),(1,SL (cI .u32) b),(6,bZ 100013 out),(7,NI .u64 borrow),(8,I ((i:Nat):Int))],[(100013,dG 1 (cI .u32) out)]⟩
def DI (a:List Int) (b:List Int) (out:List Int):St:=⟨41,0,[(6,bZ 100013 out)],[(100013,dG 1 (cI .u32) out)]⟩
def qw (a:List Int) (b:List Int) (out:List Int) (borrow:Int) (i:Nat):Option ((List Int×Int×Nat)⊕(List Int)):=
 bif decide (((i:Nat):Int)<((a.length:Nat):Int)) then
 (sJ a ((i:Nat):Int)).bind fun x1=>
 (sJ b ((i:Nat):Int)).bind fun x2=>
 bif decide (0≤IntKind.wrap .u64 ((IntKind.wrap .u64 ((IntKind.wrap .u64 (4294967296+x1))-x2))-borrow)) then
 bif decide (0<4294967296) then
 bif decide (out.length+1≤2147483648) then
 bif decide (0≤IntKind.wrap .u64 ((IntKind.wrap .u64 ((IntKind.wrap .u64 (4294967296+x1))-x2))-borrow)) then
 bif decide (0<4294967296) then
 bif decide (IntKind.wrap .u64 ((IntKind.wrap .u64 ((IntKind.wrap .u64 (4294967296+x1))-x2))-borrow)≤Go.Ab.hi .u64) then
 bif inK .i64 (((i:Nat):Int)+1) then
 some (.inl (out++[IntKind.wrap .u32 ((IntKind.wrap .u64 ((IntKind.wrap .u64 ((IntKind.wrap .u64 (4294967296+x1))-x2))-borrow))%4294967296)],IntKind.wrap .u64 (1-((IntKind.wrap .u64 ((IntKind.wrap .u64 ((IntKind.wrap .u64 (4294967296+x1))-x2))-borrow))/4294967296)),i+1))
 else none
 else none
 else none
 else none
 else none
 else none
 else none
 else
 some (.inr out)
theorem VQ (a:List Int) (b:List Int):∀σ:List Int×Int×Nat,aJ Tryz.prog (nav [1,1,1,1,0,1,0,0] (ah Tryz.f133)) (fun (σ:List Int×Int×Nat)=>DR a b σ.1 σ.2.1 σ.2.2) (fun (_:List Int)=>(.exit 0)) (fun (y:List Int)=>DI a b y) σ (qw a b σ.1 σ.2.1 σ.2.2)
 | ([],borrow,i)=>aB 1010 (.op 60004 (.ln (cI .u32) a) (.br 100000017 (.call [] [] (ni a ((i:Nat):Int)) .no fun x1=>.call [] [] (ni b ((i:Nat):Int)) .no fun x2=>.op 90006 .wr (.op 90010 (.ap (cI .u32) [] [IntKind.wrap .u32 ((IntKind.wrap .u64 ((IntKind.wrap .u64 ((IntKind.wrap .u64 (4294967296+x1))-x2))-borrow))%4294967296)] 1 fun _=>⟨rfl,rfl⟩) (.ps 1000003 [.k [0,1,6,7,8] [1011],.m 1011 100013] (.ret (.inl ([IntKind.wrap .u32 ((IntKind.wrap .u64 ((IntKind.wrap .u64 ((IntKind.wrap .u64 (4294967296+x1))-x2))-borrow))%4294967296)],IntKind.wrap .u64 (1-((IntKind.wrap .u64 ((IntKind.wrap .u64 ((IntKind.wrap .u64 (4294967296+x1))-x2))-borrow))/4294967296)),i+1)))))) (.ps 1000003 [.k [6] [100013]] (.ret (.inr []))))) (by kernel_rfl)
 | (dK::dM,borrow,i)=>aB 1010 (.op 60004 (.ln (cI .u32) a) (.br 100000017 (.call [] [] (ni a ((i:Nat):Int)) .no fun x1=>.call [] [] (ni b ((i:Nat):Int)) .no fun x2=>.op 90006 .wr (.op 90010 (.ap (cI .u32) (dK::dM) [IntKind.wrap .u32 ((IntKind.wrap .u64 ((IntKind.wrap .u64 ((IntKind.wrap .u64 (4294967296+x1))-x2))-borrow))%4294967296)] 1 fun _=>⟨rfl,rfl⟩) (.ps 1000003 [.k [0,1,6,7,8] [1011],.m 1011 100013] (.ret (.inl ((dK::dM)++[IntKind.wrap .u32 ((IntKind.wrap .u64 ((IntKind.wrap .u64 ((IntKind.wrap .u64 (4294967296+x1))-x2))-borrow))%4294967296)],IntKind.wrap .u64 (1-((IntKind.wrap .u64 ((IntKind.wrap .u64 ((IntKind.wrap .u64 (4294967296+x1))-x2))-borrow))/4294967296)),i+1)))))) (.ps 1000003 [.k [6] [100013]] (.ret (.inr (dK::dM)))))) (by kernel_rfl)
def ET (a:List Int) (b:List Int) (out:List Int) (borrow:Int) (i:Nat):Option (List Int):=aK (fun (σ:List Int×Int×Nat)=>qw a b σ.1 σ.2.1 σ.2.2) FU (out,borrow,i)
theorem U3 (a:List Int) (b:List Int) (out:List Int) (borrow:Int) (i:Nat):∀y:List Int,ET a b out borrow i=some y→Runs Tryz.prog (.loop (nav [1,1,1,1,0,1,0,0] (ah Tryz.f133))) (DR a b out borrow i) ((.exit 0)) ((fun (y:List Int)=>DI a b y) y):=
 aU (head:=fun (σ:List Int×Int×Nat)=>DR a b σ.1 σ.2.1 σ.2.2) (eo:=fun (_:List Int)=>(.exit 0)) (so:=fun (y:List Int)=>DI a b y) (VQ a b) (fun _ h=>by cases h) FU (out,borrow,i)
def Cb (a:List Int) (b:List Int):Option (List Int×Bool):=
 (wP a b).bind fun x0=>
 bif decide (x0<0) then
 some ([],false)
 else
 (ET a b [] 0 0).bind fun x1=>
 (jl x1).bind fun x2=>
 some (x2,true)
theorem H9 (a:List Int) (b:List Int):∀r,Cb a b=some r→aj Tryz.prog 133 0 [SL (cI .u32) a,SL (cI .u32) b] [] (.tup [SL (cI .u32) r.1,B r.2]) []:=
 ak (enc:=fun r=>.tup [SL (cI .u32) r.1,B r.2]) (aP:=fun r=>[]) 10 (.call [] [] (Ba a b) .no fun x0=>.br 100000013 (.ps 1000003 [.n 4] (.ret ([],false))) (.ps 1000001 [.k [0,1,6,7,8] [100013]] (.lp1 0 (U3 a b [] 0 0) fun x1=>.oz 1 6 100013 1 (cI .u32) x1 (.ps 1 [.k [6] []] (.call [] [] (iQ x1) .no fun x2=>.ret (x2,true)))))) Tryz.func133 (by kernel_rfl) (by kernel_rfl) (by kernel_rfl)
def D7 (a:List Int) (x0:List Int) (q:List Int) (r:List Int) (i:Int):St:=⟨45,0,[(0,SL (cI .u32) a),(7,SL (cI .u32) x0),(8,SL (cI .u32) q),(9,SL (cI .u32) r),(10,I i)],[]⟩
def DC (a:List Int) (x0:List Int) (q:List Int) (r:List Int):St:=⟨45,0,[(8,SL (cI .u32) q),(9,SL (cI .u32) r)],[]⟩
def jX (a:List Int) (x0:List Int) (q:List Int) (r:List Int) (i:Int):Option ((List Int×List Int×Int)⊕(List Int×List Int)):=
 bif decide (i≥0) then
 (mQ q 2 0).bind fun x1=>
 (Ls a i).bind fun x2=>
 (mQ r 2 x2).bind fun x3=>
 (wP x3 x0).bind fun x4=>
 bif decide (x4≥0) then
 (Cb x3 x0).bind fun x5=>
 (mQ x1 1 1).bind fun x6=>
 bif inK .i64 (i-1) then
 some (.inl (x6,x5.1,i-1))
 else none
 else
 bif inK .i64 (i-1) then
 some (.inl (x1,x3,i-1))
 else none
 else
 some (.inr (q,r))
theorem V6 (a:List Int) (x0:List Int):∀σ:List Int×List Int×Int,aJ Tryz.prog (nav [1,1,1,1,1,0,1,0,0] (ah Tryz.f184)) (fun (σ:List Int×List Int×Int)=>D7 a x0 σ.1 σ.2.1 σ.2.2) (fun (_:List Int×List Int)=>(.exit 0)) (fun (y:List Int×List Int)=>DC a x0 y.1 y.2) σ (jX a x0 σ.1 σ.2.1 σ.2.2)
 | (q,r,i)=>aB 1010 (.br 100000021 (.call [] [] (BR q 2 0) .no fun x1=>.call [] [] (Yr a i) .no fun x2=>.call [] [] (BR r 2 x2) .no fun x3=>.call [] [] (Ba x3 x0) .no fun x4=>.br 100000034 (.call [] [] (H9 x3 x0) .no fun x5=>.call [] [] (BR x1 1 1) .no fun x6=>.ps 1000003 [.k [0,7,8,9,10] []] (.ret (.inl (x6,x5.1,i-1)))) (.ps 1000003 [.k [0,7,8,9,10] []] (.ret (.inl (x1,x3,i-1))))) (.ps 1000003 [.k [8,9] []] (.ret (.inr (q,r))))) (by kernel_rfl)
def EX (a:List Int) (x0:List Int) (q:List Int) (r:List Int) (i:Int):Option (List Int×List Int):=aK (fun (σ:List Int×List Int×Int)=>jX a x0 σ.1 σ.2.1 σ.2.2) FU (q,r,i)
theorem WB (a:List Int) (x0:List Int) (q:List Int) (r:List Int) (i:Int):∀y:List Int×List Int,EX a x0 q r i=some y→Runs Tryz.prog (.loop (nav [1,1,1,1,1,0,1,0,0] (ah Tryz.f184))) (D7 a x0 q r i) ((.exit 0)) ((fun (y:List Int×List Int)=>DC a x0 y.1 y.2) y):=
 aU (head:=fun (σ:List Int×List Int×Int)=>D7 a x0 σ.1 σ.2.1 σ.2.2) (eo:=fun (_:List Int×List Int)=>(.exit 0)) (so:=fun (y:List Int×List Int)=>DC a x0 y.1 y.2) (V6 a x0) (fun _ h=>by cases h) FU (q,r,i)
def Ci (a:List Int) (b:List Int):Option (List Int×List Int×Bool):=
 (jl b).bind fun x0=>
 bif ((x0.length:Nat):Int)==0 then
 some ([],[],false)
 else
 bif inK .i64 (32*((a.length:Nat):Int)) then
 bif inK .i64 ((32*((a.length:Nat):Int))-1) then
 (EX a x0 [] [] ((32*((a.length:Nat):Int))-1)).bind fun x1=>
 some (x1.1,x1.2,true)
 else none
 else none
theorem II (a:List Int) (b:List Int):∀r,Ci a b=some r→aj Tryz.prog 184 0 [SL (cI .u32) a,SL (cI .u32) b] [] (.tup [SL (cI .u32) r.1,SL (cI .u32) r.2.1,B r.2.2]) []:=
 ak (enc:=fun r=>.tup [SL (cI .u32) r.1,SL (cI .u32) r.2.1,B r.2.2]) (aP:=fun r=>[]) 10 (.call [] [] (iQ b) .no fun x0=>.op 20002 (.ln (cI .u32) x0) (.br 100000015 (.ps 1000003 [.n 4,.n 5] (.ret ([],[],false))) (.op 60002 (.ln (cI .u32) a) (.ps 1000001 [.n 8,.n 9,.k [0,7,8,9,10] []] (.lp1 0 (WB a x0 [] [] ((32*((a.length:Nat):Int))-1)) fun x1=>.ret (x1.1,x1.2,true)))))) Tryz.func184 (by kernel_rfl) (by kernel_rfl) (by kernel_rfl)
def ny (a:List Int) (d:Int):Option (List Int×Int×Bool):=
 (Ci a [d]).bind fun x0=>
 bif ((x0.2.1.length:Nat):Int)==0 then
 some (x0.1,0,x0.2.2)
 else
 bif decide (0<x0.2.1.length) then
 some (x0.1,nth x0.2.1 0,x0.2.2)
 else none
theorem J4 (a:List Int) (d:Int):∀r,ny a d=some r→aj Tryz.prog 182 0 [SL (cI .u32) a,NI .u32 d] [] (.tup [SL (cI .u32) r.1,NI .u32 r.2.1,B r.2.2]) []:=
 ak (enc:=fun r=>.tup [SL (cI .u32) r.1,NI .u32 r.2.1,B r.2.2]) (aP:=fun r=>[]) 10 (.call [] [] (II a [d]) .no fun x0=>.op 20002 (.ln (cI .u32) x0.2.1) (.br 100000020 (.ret (x0.1,0,x0.2.2)) (.op 40004 (.el (cI .u32) x0.2.1 (.up 0)) (.ret (x0.1,nth x0.2.1 0,x0.2.2))))) Tryz.func182 (by kernel_rfl) (by kernel_rfl) (by kernel_rfl)
def Dc (a1:List Int) (n:Nat):St:=⟨25,0,[(0,SL (cI .u32) a1),(4,I ((n:Nat):Int))],[]⟩
def D5 (a1:List Int) (n:Nat):St:=⟨25,0,[(0,SL (cI .u32) a1),(4,I ((n:Nat):Int))],[]⟩
def kG (a1:List Int) (n:Nat):Option ((List Int×Nat)⊕(List Int×Nat)):=
 bif decide (((a1.length:Nat):Int)>0) then
 bif decide (0<a1.length) then
 bif decide (0≤nth a1 0) then
 bif decide (0<2) then
 bif ((nth a1 0)%2)==0 then
 (ny a1 2).bind fun x0=>
 bif inK .i64 (((n:Nat):Int)+1) then
 some (.inl (x0.1,n+1))
 else none
 else
 some (.inr (a1,n))
 else none
 else none
 else none
 else
 some (.inr (a1,n))
theorem UJ:∀σ:List Int×Nat,aJ Tryz.prog (nav [1,1,0,0,0] (ah Tryz.f234)) (fun (σ:List Int×Nat)=>Dc σ.1 σ.2) (fun (_:List Int×Nat)=>(.exit 0)) (fun (y:List Int×Nat)=>D5 y.1 y.2) σ (kG σ.1 σ.2)
 | (a1,n)=>aB 1010 (.op 20002 (.ln (cI .u32) a1) (.br 20008 (.op 20010 (.el (cI .u32) a1 (.up 0)) (.br 100000014 (.call [] [] (J4 a1 2) .no fun x0=>.ps 1000003 [.k [0,4] []] (.ret (.inl (x0.1,n+1)))) (.ps 1000003 [.k [0,4] []] (.ret (.inr (a1,n)))))) (.ps 1000003 [.k [0,4] []] (.ret (.inr (a1,n)))))) (by kernel_rfl)
def Kq (a1:List Int) (n:Nat):Option (List Int×Nat):=aK (fun (σ:List Int×Nat)=>kG σ.1 σ.2) FU (a1,n)
theorem WS (a1:List Int) (n:Nat):∀y:List Int×Nat,Kq a1 n=some y→Runs Tryz.prog (.loop (nav [1,1,0,0,0] (ah Tryz.f234))) (Dc a1 n) ((.exit 0)) ((fun (y:List Int×Nat)=>D5 y.1 y.2) y):=
 aU (head:=fun (σ:List Int×Nat)=>Dc σ.1 σ.2) (eo:=fun (_:List Int×Nat)=>(.exit 0)) (so:=fun (y:List Int×Nat)=>D5 y.1 y.2) (UJ) (fun _ h=>by cases h) FU (a1,n)
def xI (a:List Int):Option (List Int×Int):=
 (Kq a 0).bind fun x0=>
 some (x0.1,((x0.2:Nat):Int))
theorem Bd (a:List Int):∀r,xI a=some r→aj Tryz.prog 234 0 [SL (cI .u32) a] [] (.tup [SL (cI .u32) r.1,I r.2]) []:=
 ak (enc:=fun r=>.tup [SL (cI .u32) r.1,I r.2]) (aP:=fun r=>[]) 10 (.ps 1000001 [.k [0,4] []] (.lp1 0 (WS a 0) fun x0=>.ret (x0.1,((x0.2:Nat):Int)))) Tryz.func234 (by kernel_rfl) (by kernel_rfl) (by kernel_rfl)
def Dx (x2:List Int×Int) (x3:List Int×Int) (x:List Int) (y1:List Int):St:=⟨59,0,[(5,SL (cI .u32) x),(6,SL (cI .u32) y1),(7,I x2.2),(8,I x3.2)],[]⟩
def Ei (x2:List Int×Int) (x3:List Int×Int) (x:List Int):St:=⟨59,0,[(5,SL (cI .u32) x),(7,I x2.2),(8,I x3.2)],[]⟩
def mM (x2:List Int×Int) (x3:List Int×Int) (x:List Int) (y1:List Int):Option ((List Int×List Int)⊕(List Int)):=
 (wP x y1).bind fun x4=>
 bif x4 != 0 then
 (wP x y1).bind fun x5=>
 bif decide (x5<0) then
 (Cb y1 x).bind fun x6=>
 (xI x6.1).bind fun x7=>
 some (.inl (x7.1,x))
 else
 (Cb x y1).bind fun x6=>
 (xI x6.1).bind fun x7=>
 some (.inl (x7.1,y1))
 else
 some (.inr x)
theorem VJ (x2:List Int×Int) (x3:List Int×Int):∀σ:List Int×List Int,aJ Tryz.prog (nav [1,1,1,1,1,1,1,0,0,0] (ah Tryz.f183)) (fun (σ:List Int×List Int)=>Dx x2 x3 σ.1 σ.2) (fun (_:List Int)=>(.exit 0)) (fun (y:List Int)=>Ei x2 x3 y) σ (mM x2 x3 σ.1 σ.2)
 | (x,y1)=>aB 1010 (.call [] [] (Ba x y1) .no fun x4=>.br 100000035 (.call [] [] (Ba x y1) .no fun x5=>.br 100000039 (.call [] [] (H9 y1 x) .no fun x6=>.call [] [] (Bd x6.1) .no fun x7=>.ps 1000003 [.k [5,6,7,8] []] (.ret (.inl (x7.1,x)))) (.call [] [] (H9 x y1) .no fun x6=>.call [] [] (Bd x6.1) .no fun x7=>.ps 1000003 [.k [5,6,7,8] []] (.ret (.inl (x7.1,y1))))) (.ps 1000003 [.k [5,7,8] []] (.ret (.inr x)))) (by kernel_rfl)
def JA (x2:List Int×Int) (x3:List Int×Int) (x:List Int) (y1:List Int):Option (List Int):=aK (fun (σ:List Int×List Int)=>mM x2 x3 σ.1 σ.2) FU (x,y1)
theorem UZ (x2:List Int×Int) (x3:List Int×Int) (x:List Int) (y1:List Int):∀y:List Int,JA x2 x3 x y1=some y→Runs Tryz.prog (.loop (nav [1,1,1,1,1,1,1,0,0,0] (ah Tryz.f183))) (Dx x2 x3 x y1) ((.exit 0)) ((fun (y:List Int)=>Ei x2 x3 y) y):=
 aU (head:=fun (σ:List Int×List Int)=>Dx x2 x3 σ.1 σ.2) (eo:=fun (_:List Int)=>(.exit 0)) (so:=fun (y:List Int)=>Ei x2 x3 y) (VJ x2 x3) (fun _ h=>by cases h) FU (x,y1)
def xX (n:Int) (out:List Int) (i:Nat):St:=⟨26,0,[(1,I n),(5,SL (cI .u32) out),(6,I ((i:Nat):Int))],[]⟩
def xO (n:Int) (out:List Int):St:=⟨26,0,[(5,SL (cI .u32) out)],[]⟩
def l9 (n:Int) (out:List Int) (i:Nat):Option ((List Int×Nat)⊕(List Int)):=
 bif decide (((i:Nat):Int)<n) then
 bif decide (((i:Nat):Int)<100000) then
 bif decide (((out.length:Nat):Int)>0) then
 (mQ out 2 0).bind fun x1=>
 bif inK .i64 (((i:Nat):Int)+1) then
 some (.inl (x1,i+1))
 else none
 else
 some (.inr out)
 else
 some (.inr out)
 else
 some (.inr out)
theorem QD (n:Int):∀σ:List Int×Nat,aJ Tryz.prog (nav [1,1,0,1,0,0] (ah Tryz.f235)) (fun (σ:List Int×Nat)=>xX n σ.1 σ.2) (fun (_:List Int)=>(.exit 0)) (fun (y:List Int)=>xO n y) σ (l9 n σ.1 σ.2)
 | (out,i)=>aB 1010 (.br 30008 (.br 30016 (.op 30018 (.ln (cI .u32) out) (.br 100000020 (.call [] [] (BR out 2 0) .no fun x1=>.ps 1000003 [.k [1,5,6] []] (.ret (.inl (x1,i+1)))) (.ps 1000003 [.k [5] []] (.ret (.inr out))))) (.ps 1000003 [.k [5] []] (.ret (.inr out)))) (.ps 1000003 [.k [5] []] (.ret (.inr out)))) (by kernel_rfl)
def yH (n:Int) (out:List Int) (i:Nat):Option (List Int):=aK (fun (σ:List Int×Nat)=>l9 n σ.1 σ.2) FU (out,i)
theorem Q7 (n:Int) (out:List Int) (i:Nat):∀y:List Int,yH n out i=some y→Runs Tryz.prog (.loop (nav [1,1,0,1,0,0] (ah Tryz.f235))) (xX n out i) ((.exit 0)) ((fun (y:List Int)=>xO n y) y):=
 aU (head:=fun (σ:List Int×Nat)=>xX n σ.1 σ.2) (eo:=fun (_:List Int)=>(.exit 0)) (so:=fun (y:List Int)=>xO n y) (QD n) (fun _ h=>by cases h) FU (out,i)
def Ew (a:List Int) (n:Int):Option (List Int):=
 (jl a).bind fun x0=>
 (yH n x0 0).bind fun x1=>
 some x1
theorem VN (a:List Int) (n:Int):∀r,Ew a n=some r→aj Tryz.prog 235 0 [SL (cI .u32) a,I n] [] (SL (cI .u32) r) []:=
 ak (enc:=fun r=>SL (cI .u32) r) (aP:=fun r=>[]) 10 (.call [] [] (iQ a) .no fun x0=>.ps 1000001 [.k [1,5,6] []] (.lp1 0 (Q7 n x0 0) fun x1=>.ret x1)) Tryz.func235 (by kernel_rfl) (by kernel_rfl) (by kernel_rfl)
def Ce (a:List Int) (b:List Int):Option (List Int):=
 (jl a).bind fun x0=>
 (jl b).bind fun x1=>
 bif ((x0.length:Nat):Int)==0 then
 some x1
 else
 bif ((x1.length:Nat):Int)==0 then
 some x0
 else
 (xI x0).bind fun x2=>
 (xI x1).bind fun x3=>
 (JA x2 x3 x2.1 x3.1).bind fun x4=>
 (Ew x4 (mnI x2.2 x3.2)).bind fun x5=>
 some x5
theorem YC (a:List Int) (b:List Int):∀r,Ce a b=some r→aj Tryz.prog 183 0 [SL (cI .u32) a,SL (cI .u32) b] [] (SL (cI .u32) r) []:=
 ak (enc:=fun r=>SL (cI .u32) r) (aP:=fun r=>[]) 10 (.call [] [] (iQ a) .no fun x0=>.call [] [] (iQ b) .no fun x1=>.op 30002 (.ln (cI .u32) x0) (.br 100000016 (.ret x1) (.op 50002 (.ln (cI .u32) x1) (.br 100000020 (.ret x0) (.call [] [] (Bd x0) .no fun x2=>.call [] [] (Bd x1) .no fun x3=>.ps 1000001 [.k [5,6,7,8] []] (.lp1 0 (UZ x2 x3 x2.1 x3.1) fun x4=>.call [] [] (VN x4 (mnI x2.2 x3.2)) .no fun x5=>.ret x5)))))) Tryz.func183 (by kernel_rfl) (by kernel_rfl) (by kernel_rfl)
def vN (a:List Int) (b:List Int):Option (List Int×List Int×Bool):=
 (jl b).bind fun x0=>
 bif ((x0.length:Nat):Int)==0 then
 some ([],[],false)
 else
 (Ce a x0).bind fun x1=>
 (Ci a x1).bind fun x2=>
 (Ci x0 x1).bind fun x3=>
 some (x2.1,x3.1,true)
theorem Ti (a:List Int) (b:List Int):∀r,vN a b=some r→aj Tryz.prog 129 0 [SL (cI .u32) a,SL (cI .u32) b] [] (.tup [SL (cI .u32) r.1,SL (cI .u32) r.2.1,B r.2.2]) []:=
 ak (enc:=fun r=>.tup [SL (cI .u32) r.1,SL (cI .u32) r.2.1,B r.2.2]) (aP:=fun r=>[]) 10 (.call [] [] (iQ b) .no fun x0=>.op 20002 (.ln (cI .u32) x0) (.br 100000016 (.ps 1000003 [.n 4,.n 5] (.ret ([],[],false))) (.call [] [] (YC a x0) .no fun x1=>.call [] [] (II a x1) .no fun x2=>.call [] [] (II x0 x1) .no fun x3=>.ret (x2.1,x3.1,true)))) Tryz.func129 (by kernel_rfl) (by kernel_rfl) (by kernel_rfl)
def qI (n:Whole) (d:List Int):Option Rat:=
 (vN n.Mag d).bind fun x0=>
 bif !x0.2.2 then
 some (Rat.mk false [] [1])
 else
 bif ((x0.1.length:Nat):Int)==0 then
 some (Rat.mk false [] [1])
 else
 some (Rat.mk n.Neg x0.1 x0.2.1)
theorem Aa (n:Whole) (d:List Int):∀r,qI n d=some r→aj Tryz.prog 73 0 [AG Whole.D n,SL (cI .u32) d] [] (AG Rat.D r) []:=
 ak (enc:=fun r=>AG Rat.D r) (aP:=fun r=>[]) 10 (.call [] [] (Ti n.Mag d) .no fun x0=>.br 20006 (.ps 1000003 [.b 11] (.ret (Rat.mk false [] [1]))) (.op 20008 (.ln (cI .u32) x0.1) (.br 100000022 (.ps 1000003 [.b 11] (.ret (Rat.mk false [] [1]))) (.ret (Rat.mk n.Neg x0.1 x0.2.1))))) Tryz.func73 (by kernel_rfl) (by kernel_rfl) (by kernel_rfl)
def nN (n:Int) (d:Int):Option Rat:=
 bif inK .i64 n then
 (Gi n).bind fun x0=>
 bif inK .u32 d then
 (qI x0 [IntKind.wrap .u32 (d+1)]).bind fun x1=>
 some x1
 else none
 else none
theorem jU (n:Int) (d:Int):∀r,nN n d=some r→aj Tryz.prog 44 0 [NI .i8 n,NI .u8 d] [] (AG Rat.D r) []:=
 ak (enc:=fun r=>AG Rat.D r) (aP:=fun r=>[]) 10 (.call [] [] (RI n) .no fun x0=>.call [] [] (Aa x0 [IntKind.wrap .u32 (d+1)]) .no fun x1=>.ret x1) Tryz.func44 (by kernel_rfl) (by kernel_rfl) (by kernel_rfl)
def EO (g:Graph):Option Bool:=
 bif decide (g.Ins≥1) then
 bif decide (g.Ins≤40) then
 bif decide (g.aH≥1) then
 bif decide (g.aH≤40) then
 bif decide (g.bJ≥0) then
 some (decide (g.bJ≤400))
 else
 some false
 else
 some false
 else
 some false
 else
 some false
 else
 some false
theorem Wh (g:Graph):∀r,EO g=some r→aj Tryz.prog 111 0 [AG Graph.D g] [] (B r) []:=
 ak (enc:=fun r=>B r) (aP:=fun r=>[]) 10 (.br 10008 (.br 10018 (.br 10028 (.br 10038 (.br 10048 (.ret (decide (g.bJ≤400))) (.ret false)) (.ret false)) (.ret false)) (.ret false)) (.ret false)) Tryz.func111 (by kernel_rfl) (by kernel_rfl) (by kernel_rfl)
def Lp (g:Graph) (v:Int):Option Bool:=
 bif decide (v≥g.Ins) then
 bif inK .i64 (g.Ins+g.bJ) then
 some (decide (v<(g.Ins+g.bJ)))
 else none
 else
 some false
theorem YU (g:Graph) (v:Int):∀r,Lp g v=some r→aj Tryz.prog 168 0 [AG Graph.D g,I v] [] (B r) []:=
 ak (enc:=fun r=>B r) (aP:=fun r=>[]) 10 (.br 10010 (.ret (decide (v<(g.Ins+g.bJ)))) (.ret false)) Tryz.func168 (by kernel_rfl) (by kernel_rfl) (by kernel_rfl)
def zS (g:Graph) (i:Nat):St:=⟨32,0,[(1,.ptr 10 0 0),(6,SL (cI .i64) g.Gone),(7,I ((g.Gone.length:Nat):Int)),(8,I ((i:Nat):Int))],[(10,BOX [I g.Ins,I g.bJ,I g.aH,SL Edge.D g.Edges,SL (cI .i64) g.Gone])]⟩
def zX (g:Graph):St:=⟨32,0,[(2,B false)],[]⟩
def Ac (g:Graph):St:=⟨32,0,[],[]⟩
def kW (g:Graph) (i:Nat):Option (Nat⊕(Unit⊕Unit)):=
 bif decide (((i:Nat):Int)<((g.Gone.length:Nat):Int)) then
 bif decide (i<g.Gone.length) then
 (Lp g (nth g.Gone i)).bind fun x0=>
 bif !x0 then
 some (.inr (.inl ()))
 else
 bif decide (((i:Nat):Int)>0) then
 bif inK .i64 (((i:Nat):Int)-1) then
 bif decide (0≤((i:Nat):Int)-1) then
 bif decide ((((i:Nat):Int)-1).toNat<g.Gone.length) then
 bif decide ((nth g.Gone i)≤(nth g.Gone ((((i:Nat):Int)-1).toNat))) then
 some (.inr (.inl ()))
 else
 bif inK .i64 (((i:Nat):Int)+1) then
 some (.inl (i+1))
 else none
 else none
 else none
 else none
 else
 bif inK .i64 (((i:Nat):Int)+1) then
 some (.inl (i+1))
 else none
 else none
 else
 some (.inr (.inr ()))
theorem Tz (g:Graph):∀σ:Nat,aJ Tryz.prog (nav [1,0,1,0,0] (ah Tryz.f112)) (fun (σ:Nat)=>zS g σ) (fun (y:Unit⊕Unit)=>aN y (fun _=>.ret) (fun _=>(.exit 0))) (fun (y:Unit⊕Unit)=>aN y (fun y=>zX g) (fun y=>Ac g)) σ (kW g σ)
 | i=>aB 1010 (.br 100000009 (.op 30002 (.el (cI .i64) g.Gone (.up i)) (.call [] [] (YU g (nth g.Gone i)) .no fun x0=>.br 40010 (.ps 1000003 [.k [2] []] (.ret (.inr (.inl ())))) (.br 40016 (.op 40026 (.el (cI .i64) g.Gone .dn) (.br 100000030 (.ps 1000003 [.k [2] []] (.ret (.inr (.inl ())))) (.ps 1000003 [.k [1,6,7,8] [10]] (.ret (.inl (i+1)))))) (.ps 1000003 [.k [1,6,7,8] [10]] (.ret (.inl (i+1))))))) (.ps 1000003 [.k [] []] (.ret (.inr (.inr ()))))) (by kernel_rfl)
def BN (g:Graph) (i:Nat):Option (Unit⊕Unit):=aK (fun (σ:Nat)=>kW g σ) FU i
theorem TU (g:Graph) (i:Nat):∀y:Unit⊕Unit,BN g i=some y→Runs Tryz.prog (.loop (nav [1,0,1,0,0] (ah Tryz.f112))) (zS g i) (aN y (fun _=>.ret) (fun _=>(.exit 0))) ((fun (y:Unit⊕Unit)=>aN y (fun y=>zX g) (fun y=>Ac g)) y):=
 aU (head:=fun (σ:Nat)=>zS g σ) (eo:=fun (y:Unit⊕Unit)=>aN y (fun _=>.ret) (fun _=>(.exit 0))) (so:=fun (y:Unit⊕Unit)=>aN y (fun y=>zX g) (fun y=>Ac g)) (Tz g) (fun y h=>by rcases y with y | y<;>cases h) FU i
def IC (g:Graph):Option Bool:=
 (BN g 0).bind fun y_=>aN y_ (fun x0=>
 some false)
 (fun x1=>
 some true)
theorem Xg (g:Graph):∀r,IC g=some r→aj Tryz.prog 112 0 [AG Graph.D g] [] (B r) []:=
 ak (enc:=fun r=>B r) (aP:=fun r=>[]) 10 (.op 10004 (.ln (cI .i64) g.Gone) (.ps 1000001 [.k [1,6,7,8] [10]] (.lp2 0 (TU g 0) (fun x0=>.ret false) (fun x1=>.ret true)))) Tryz.func112 (by kernel_rfl) (by kernel_rfl) (by kernel_rfl)
def kS (s:List Int) (v:Int) (i:Nat):St:=⟨19,0,[(0,SL (cI .i64) s),(1,I v),(7,I ((s.length:Nat):Int)),(8,I ((i:Nat):Int))],[]⟩
def kP (s:List Int) (v:Int) (i:Nat):St:=⟨19,0,[(4,I ((i:Nat):Int))],[]⟩
def kQ (s:List Int) (v:Int):St:=⟨19,0,[],[]⟩
def bQ (s:List Int) (v:Int) (i:Nat):Option (Nat⊕(Nat⊕Unit)):=
 bif decide (((i:Nat):Int)<((s.length:Nat):Int)) then
 bif decide (i<s.length) then
 bif v==(nth s i) then
 some (.inr (.inl i))
 else
 bif inK .i64 (((i:Nat):Int)+1) then
 some (.inl (i+1))
 else none
 else none
 else
 some (.inr (.inr ()))
theorem Ep (s:List Int) (v:Int):∀σ:Nat,aJ Tryz.prog (nav [1,0,1,0,0] (ah Tryz.f120)) (fun (σ:Nat)=>kS s v σ) (fun (y:Nat⊕Unit)=>aN y (fun _=>.ret) (fun _=>(.exit 0))) (fun (y:Nat⊕Unit)=>aN y (fun y=>kP s v y) (fun y=>kQ s v)) σ (bQ s v σ)
 | i=>aB 1010 (.br 100000009 (.op 40006 (.el (cI .i64) s (.up i)) (.br 100000016 (.ps 1000003 [.k [4] []] (.ret (.inr (.inl i)))) (.ps 1000003 [.k [0,1,7,8] []] (.ret (.inl (i+1)))))) (.ps 1000003 [.k [] []] (.ret (.inr (.inr ()))))) (by kernel_rfl)
def fM (s:List Int) (v:Int) (i:Nat):Option (Nat⊕Unit):=aK (fun (σ:Nat)=>bQ s v σ) FU i
theorem Ej (s:List Int) (v:Int) (i:Nat):∀y:Nat⊕Unit,fM s v i=some y→Runs Tryz.prog (.loop (nav [1,0,1,0,0] (ah Tryz.f120))) (kS s v i) (aN y (fun _=>.ret) (fun _=>(.exit 0))) ((fun (y:Nat⊕Unit)=>aN y (fun y=>kP s v y) (fun y=>kQ s v)) y):=
 aU (head:=fun (σ:Nat)=>kS s v σ) (eo:=fun (y:Nat⊕Unit)=>aN y (fun _=>.ret) (fun _=>(.exit 0))) (so:=fun (y:Nat⊕Unit)=>aN y (fun y=>kP s v y) (fun y=>kQ s v)) (Ep s v) (fun y h=>by rcases y with y | y<;>cases h) FU i
def iY (s:List Int) (v:Int):Option Int:=
 (fM s v 0).bind fun y_=>aN y_ (fun x0=>
 some ((x0:Nat):Int))
 (fun x1=>
 some (-1))
theorem GK (s:List Int) (v:Int):∀r,iY s v=some r→aj Tryz.prog 120 0 [SL (cI .i64) s,I v] [] (I r) []:=
 ak (enc:=fun r=>I r) (aP:=fun r=>[]) 10 (.op 10002 (.ln (cI .i64) s) (.ps 1000001 [.k [0,1,7,8] []] (.lp2 0 (Ej s v 0) (fun x0=>.ret ((x0:Nat):Int)) (fun x1=>.ret (-1))))) Tryz.func120 (by kernel_rfl) (by kernel_rfl) (by kernel_rfl)
def dJ (s:List Int) (v:Int):Option Bool:=
 (iY s v).bind fun x0=>
 some (decide (x0≥0))
theorem gW (s:List Int) (v:Int):∀r,dJ s v=some r→aj Tryz.prog 58 0 [SL (cI .i64) s,I v] [] (B r) []:=
 ak (enc:=fun r=>B r) (aP:=fun r=>[]) 10 (.call [] [] (GK s v) .no fun x0=>.ret (decide (x0≥0))) Tryz.func58 (by kernel_rfl) (by kernel_rfl) (by kernel_rfl)
def uD (a:Edge) (b:Edge):Option Int:=
 (cmp_Compare_int a.From b.From).bind fun x0=>
 (cmp_Compare_int a.To b.To).bind fun x1=>
 (lS [x0,x1]).bind fun x2=>
 some x2
theorem Jc (a:Edge) (b:Edge):∀r,uD a b=some r→aj Tryz.prog 98 0 [AG Edge.D a,AG Edge.D b] [] (I r) []:=
 ak (enc:=fun r=>I r) (aP:=fun r=>[]) 10 (.call [] [] (gU a.From b.From) .no fun x0=>.call [] [] (gU a.To b.To) .no fun x1=>.call [] [] (FK [x0,x1]) (.yes fun _=>⟨rfl,trivial⟩) fun x2=>.ret x2) Tryz.func98 (by kernel_rfl) (by kernel_rfl) (by kernel_rfl)
def yc (tA:Graph) (i:Nat):St:=⟨95,0,[(1,.ptr 10 0 0),(14,SL Edge.D tA.Edges),(15,I ((tA.Edges.length:Nat):Int)),(16,I ((i:Nat):Int))],[(10,BOX [I tA.Ins,I tA.bJ,I tA.aH,SL Edge.D tA.Edges,SL (cI .i64) tA.Gone])]⟩
def xq (tA:Graph):St:=⟨95,0,[(2,B false)],[]⟩
def xw (tA:Graph):St:=⟨95,0,[],[]⟩
def bM (tA:Graph) (i:Nat):Option (Nat⊕(Unit⊕Unit)):=
 bif decide (((i:Nat):Int)<((tA.Edges.length:Nat):Int)) then
 bif decide (i<tA.Edges.length) then
 bif decide (((nth tA.Edges i).From)<0) then
 some (.inr (.inl ()))
 else
 bif inK .i64 (tA.Ins+tA.bJ) then
 bif decide (((nth tA.Edges i).From)≥(tA.Ins+tA.bJ)) then
 some (.inr (.inl ()))
 else
 bif decide (((nth tA.Edges i).To)<tA.Ins) then
 some (.inr (.inl ()))
 else
 bif inK .i64 (tA.Ins+tA.bJ) then
 bif inK .i64 ((tA.Ins+tA.bJ)+tA.aH) then
 bif decide (((nth tA.Edges i).To)≥((tA.Ins+tA.bJ)+tA.aH)) then
 some (.inr (.inl ()))
 else
 bif decide (((nth tA.Edges i).From)≥((nth tA.Edges i).To)) then
 some (.inr (.inl ()))
 else
 (uK ((nth tA.Edges i).W)).bind fun x2=>
 bif !x2 then
 some (.inr (.inl ()))
 else
 bif decide (((i:Nat):Int)>0) then
 bif inK .i64 (((i:Nat):Int)-1) then
 bif decide (0≤((i:Nat):Int)-1) then
 bif decide ((((i:Nat):Int)-1).toNat<tA.Edges.length) then
 (uD (nth tA.Edges ((((i:Nat):Int)-1).toNat)) (nth tA.Edges i)).bind fun x3=>
 bif decide (x3≥0) then
 some (.inr (.inl ()))
 else
 (dJ tA.Gone ((nth tA.Edges i).From)).bind fun x4=>
 bif x4 then
 some (.inr (.inl ()))
 else
 (dJ tA.Gone ((nth tA.Edges i).To)).bind fun x5=>
 bif x5 then
 some (.inr (.inl ()))
 else
 bif inK .i64 (((i:Nat):Int)+1) then
 some (.inl (i+1))
 else none
 else none
 else none
 else none
 else
 (dJ tA.Gone ((nth tA.Edges i).From)).bind fun x3=>
 bif x3 then
 some (.inr (.inl ()))
 else
 (dJ tA.Gone ((nth tA.Edges i).To)).bind fun x4=>
 bif x4 then
 some (.inr (.inl ()))
 else
 bif inK .i64 (((i:Nat):Int)+1) then
 some (.inl (i+1))
 else none
 else none
 else none
 else none
 else none
 else
 some (.inr (.inr ()))
theorem QB (tA:Graph):∀σ:Nat,aJ Tryz.prog (nav [1,1,0,1,0,0] (ah Tryz.f53)) (fun (σ:Nat)=>yc tA σ) (fun (y:Unit⊕Unit)=>aN y (fun _=>.ret) (fun _=>(.exit 0))) (fun (y:Unit⊕Unit)=>aN y (fun y=>xq tA) (fun y=>xw tA)) σ (bM tA σ)
 | i=>aB 1010 (.br 100000017 (.op 50002 (.el Edge.D tA.Edges (.up i)) (.br 60008 (.ps 1000003 [.k [2] []] (.ret (.inr (.inl ())))) (.br 60028 (.ps 1000003 [.k [2] []] (.ret (.inr (.inl ())))) (.br 60042 (.ps 1000003 [.k [2] []] (.ret (.inr (.inl ())))) (.br 60068 (.ps 1000003 [.k [2] []] (.ret (.inr (.inl ())))) (.br 100000060 (.ps 1000003 [.k [2] []] (.ret (.inr (.inl ())))) (.call [] [] (KO ((nth tA.Edges i).W)) .no fun x2=>.br 80010 (.ps 1000003 [.k [2] []] (.ret (.inr (.inl ())))) (.br 80016 (.op 80024 (.el Edge.D tA.Edges .dn) (.call [] [] (Jc (nth tA.Edges ((((i:Nat):Int)-1).toNat)) (nth tA.Edges i)) .no fun x3=>.br 80040 (.ps 1000003 [.k [2] []] (.ret (.inr (.inl ())))) (.call [] [] (gW tA.Gone ((nth tA.Edges i).From)) .no fun x4=>.br 80054 (.ps 1000003 [.k [2] []] (.ret (.inr (.inl ())))) (.call [] [] (gW tA.Gone ((nth tA.Edges i).To)) .no fun x5=>.br 100000093 (.ps 1000003 [.k [2] []] (.ret (.inr (.inl ())))) (.ps 1000003 [.k [1,14,15,16] [10]] (.ret (.inl (i+1)))))))) (.call [] [] (gW tA.Gone ((nth tA.Edges i).From)) .no fun x3=>.br 80054 (.ps 1000003 [.k [2] []] (.ret (.inr (.inl ())))) (.call [] [] (gW tA.Gone ((nth tA.Edges i).To)) .no fun x4=>.br 100000093 (.ps 1000003 [.k [2] []] (.ret (.inr (.inl ())))) (.ps 1000003 [.k [1,14,15,16] [10]] (.ret (.inl (i+1)))))))))))))) (.ps 1000003 [.k [] []] (.ret (.inr (.inr ()))))) (by kernel_rfl)
def yM (tA:Graph) (i:Nat):Option (Unit⊕Unit):=aK (fun (σ:Nat)=>bM tA σ) FU i
theorem QM (tA:Graph) (i:Nat):∀y:Unit⊕Unit,yM tA i=some y→Runs Tryz.prog (.loop (nav [1,1,0,1,0,0] (ah Tryz.f53))) (yc tA i) (aN y (fun _=>.ret) (fun _=>(.exit 0))) ((fun (y:Unit⊕Unit)=>aN y (fun y=>xq tA) (fun y=>xw tA)) y):=
 aU (head:=fun (σ:Nat)=>yc tA σ) (eo:=fun (y:Unit⊕Unit)=>aN y (fun _=>.ret) (fun _=>(.exit 0))) (so:=fun (y:Unit⊕Unit)=>aN y (fun y=>xq tA) (fun y=>xw tA)) (QB tA) (fun y h=>by rcases y with y | y<;>cases h) FU i
def uF (tA:Graph):Option Bool:=
 (EO tA).bind fun x0=>
 bif !x0 then
 some false
 else
 (IC tA).bind fun x1=>
 bif !x1 then
 some false
 else
 (yM tA 0).bind fun y_=>aN y_ (fun x2=>
 some false)
 (fun x3=>
 some true)
theorem KA (tA:Graph):∀r,uF tA=some r→aj Tryz.prog 53 0 [AG Graph.D tA] [] (B r) []:=
 ak (enc:=fun r=>B r) (aP:=fun r=>[]) 10 (.call [] [] (Wh tA) .no fun x0=>.br 10008 (.ret false) (.call [] [] (Xg tA) .no fun x1=>.br 100000012 (.ret false) (.op 30004 (.ln Edge.D tA.Edges) (.ps 1000001 [.k [1,14,15,16] [10]] (.lp2 0 (QM tA 0) (fun x2=>.ret false) (fun x3=>.ret true)))))) Tryz.func53 (by kernel_rfl) (by kernel_rfl) (by kernel_rfl)
def Au (g:Graph) (i:Nat) (s:List Pair):St:=⟨36,0,[(2,.ptr 11 0 0),(3,.ptr 12 0 0),(18,SL Edge.D g.Edges),(19,I ((g.Edges.length:Nat):Int)),(20,I ((i:Nat):Int))],[(11,BOX [I 0,I 0,I 0,gq]),(12,BOX [I g.Ins,I g.bJ,I g.aH,bZ 100016 s]),(100016,dG 2 Pair.D s)]⟩
def Az (g:Graph) (s:List Pair):St:=⟨36,0,[(2,.ptr 11 0 0),(3,.ptr 12 0 0)],[(11,BOX [I 0,I 0,I 0,gq]),(12,BOX [I g.Ins,I g.bJ,I g.aH,bZ 100016 s]),(100016,dG 2 Pair.D s)]⟩
def nY (g:Graph) (i:Nat) (s:List Pair):Option ((Nat×List Pair)⊕(List Pair)):=
 bif decide (((i:Nat):Int)<((g.Edges.length:Nat):Int)) then
 bif decide (i<g.Edges.length) then
 bif decide (s.length+1≤2147483648) then
 bif inK .i64 (((i:Nat):Int)+1) then
 some (.inl (i+1,s++[Pair.mk ((nth g.Edges i).From) ((nth g.Edges i).To)]))
 else none
 else none
 else none
 else
 some (.inr s)
theorem Td (g:Graph):∀σ:Nat×List Pair,aJ Tryz.prog (nav [1,1,1,0,1,0,0] (ah Tryz.f18)) (fun (σ:Nat×List Pair)=>Au g σ.1 σ.2) (fun (_:List Pair)=>(.exit 0)) (fun (y:List Pair)=>Az g y) σ (nY g σ.1 σ.2)
 | (i,[])=>aB 1010 (.br 100000021 (.op 60000 (.el Edge.D g.Edges (.up i)) (.op 70016 (.ap Pair.D [] [Pair.mk ((nth g.Edges i).From) ((nth g.Edges i).To)] 2 fun _=>⟨rfl,rfl⟩) (.ps 1000003 [.k [2,3,18,19,20] [11,12,1012],.m 1012 100016] (.ret (.inl (i+1,[Pair.mk ((nth g.Edges i).From) ((nth g.Edges i).To)])))))) (.ps 1000003 [.k [2,3] [11,12,100016]] (.ret (.inr [])))) (by kernel_rfl)
 | (i,s_h::s_t)=>aB 1010 (.br 100000021 (.op 60000 (.el Edge.D g.Edges (.up i)) (.op 70016 (.ap Pair.D (s_h::s_t) [Pair.mk ((nth g.Edges i).From) ((nth g.Edges i).To)] 2 fun _=>⟨rfl,rfl⟩) (.ps 1000003 [.k [2,3,18,19,20] [11,12,1012],.m 1012 100016] (.ret (.inl (i+1,(s_h::s_t)++[Pair.mk ((nth g.Edges i).From) ((nth g.Edges i).To)])))))) (.ps 1000003 [.k [2,3] [11,12,100016]] (.ret (.inr (s_h::s_t))))) (by kernel_rfl)
def Ia (g:Graph) (i:Nat) (s:List Pair):Option (List Pair):=aK (fun (σ:Nat×List Pair)=>nY g σ.1 σ.2) FU (i,s)
theorem SH (g:Graph) (i:Nat) (s:List Pair):∀y:List Pair,Ia g i s=some y→Runs Tryz.prog (.loop (nav [1,1,1,0,1,0,0] (ah Tryz.f18))) (Au g i s) ((.exit 0)) ((fun (y:List Pair)=>Az g y) y):=
 aU (head:=fun (σ:Nat×List Pair)=>Au g σ.1 σ.2) (eo:=fun (_:List Pair)=>(.exit 0)) (so:=fun (y:List Pair)=>Az g y) (Td g) (fun _ h=>by cases h) FU (i,s)
def wW (g:Graph):Option Shape:=
 (uF g).bind fun x0=>
 bif !x0 then
 some (Shape.mk 0 0 0 [])
 else
 (Ia g 0 []).bind fun x1=>
 some (Shape.mk g.Ins g.bJ g.aH x1)
theorem FP (g:Graph):∀r,wW g=some r→aj Tryz.prog 18 0 [AG Graph.D g] [] (AG Shape.D r) []:=
 ak (enc:=fun r=>AG Shape.D r) (aP:=fun r=>[]) 10 (.call [] [] (KA g) .no fun x0=>.br 100000008 (.ps 1000003 [.b 11] (.ret (Shape.mk 0 0 0 []))) (.op 40004 (.ln Edge.D g.Edges) (.ps 1000001 [.k [2,3,18,19,20] [11,12,100016]] (.lp1 0 (SH g 0 []) fun x1=>.ob 1 12 3 100016 2 Pair.D x1 (.ps 1 [.k [2,3] [11,12]] (.ret (Shape.mk g.Ins g.bJ g.aH x1))))))) Tryz.func18 (by kernel_rfl) (by kernel_rfl) (by kernel_rfl)
end Go.Ab.M
