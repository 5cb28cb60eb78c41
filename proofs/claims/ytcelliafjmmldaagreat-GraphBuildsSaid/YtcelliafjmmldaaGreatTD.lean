import Derived.Test.YtcelliafjmmldaaGreatTC
namespace Go.Ab.M
open Go.Proofs
set_option linter.unusedVariables false
set_option maxRecDepth 100000
structure Whole where
 Neg:Bool
 Mag:List Int
 deriving DecidableEq,Inhabited
abbrev Whole.D (x:Whole):List D:=[.v (.bool x.Neg),.sl (x.Mag.map (cI .u32))]
structure Link where
 From:Int
 To:Int
 N:Int
 D_:Int
 deriving DecidableEq,Inhabited
abbrev Link.D (x:Link):List D:=[.v (.int .u8 x.From),.v (.int .u8 x.To),.v (.int .i8 x.N),.v (.int .u8 x.D_)]
structure Edge where
 From:Int
 To:Int
 W:Rat
 deriving DecidableEq,Inhabited
abbrev Edge.D (x:Edge):List D:=[.v (.int .i64 x.From)]++[.v (.int .i64 x.To)]++Rat.D x.W
structure Graph where
 Ins:Int
 aY:Int
 aG:Int
 Edges:List Edge
 Gone:List Int
 deriving DecidableEq,Inhabited
abbrev Graph.D (x:Graph):List D:=[.v (.int .i64 x.Ins),.v (.int .i64 x.aY),.v (.int .i64 x.aG),.sl (x.Edges.map Edge.D),.sl (x.Gone.map (cI .i64))]
def Gi (n1:Int) (out:List Int):St:=⟨15,0,[(0,NI .u64 n1),(3,bI 100010 out)],[(100010,bM 1 (cI .u32) out)]⟩
def Gf (out:List Int):St:=⟨15,0,[(3,bI 100010 out)],[(100010,bM 1 (cI .u32) out)]⟩
def rX (n1:Int) (out:List Int):Option ((Int×List Int)⊕(List Int)):=
 bif decide (n1>0) then
 bif decide (0≤n1) then
 bif decide (0<4294967296) then
 bif decide (out.length+1≤2147483648) then
 bif decide (0≤n1) then
 bif decide (0<4294967296) then
 bif decide (n1≤Go.Ab.hi .u64) then
 some (.inl (n1/4294967296,out++[IntKind.wrap .u32 (n1%4294967296)]))
 else none
 else none
 else none
 else none
 else none
 else none
 else
 some (.inr out)
theorem X3:∀σ:Int×List Int,aN Tryz.prog (nav [1,1,0,0,0] (ah Tryz.f159)) (fun (σ:Int×List Int)=>Gi σ.1 σ.2) (fun (_:List Int)=>(.exit 0)) (fun (y:List Int)=>Gf y) σ (rX σ.1 σ.2)
 | (n1,[])=>aF 1010 (.br 100000005 (.op 30006 .wr (.op 30010 (.ap (cI .u32) [] [IntKind.wrap .u32 (n1%4294967296)] 1 fun _=>⟨rfl,rfl⟩) (.ps 1000003 [.k [0,3] [1011],.m 1011 100010] (.ret (.inl (n1/4294967296,[IntKind.wrap .u32 (n1%4294967296)])))))) (.ps 1000003 [.k [3] [100010]] (.ret (.inr [])))) (by kernel_rfl)
 | (n1,dP::dO)=>aF 1010 (.br 100000005 (.op 30006 .wr (.op 30010 (.ap (cI .u32) (dP::dO) [IntKind.wrap .u32 (n1%4294967296)] 1 fun _=>⟨rfl,rfl⟩) (.ps 1000003 [.k [0,3] [1011],.m 1011 100010] (.ret (.inl (n1/4294967296,(dP::dO)++[IntKind.wrap .u32 (n1%4294967296)])))))) (.ps 1000003 [.k [3] [100010]] (.ret (.inr (dP::dO))))) (by kernel_rfl)
def H9 (n1:Int) (out:List Int):Option (List Int):=aK (fun (σ:Int×List Int)=>rX σ.1 σ.2) FU (n1,out)
theorem XW (n1:Int) (out:List Int):∀y:List Int,H9 n1 out=some y→Runs Tryz.prog (.loop (nav [1,1,0,0,0] (ah Tryz.f159))) (Gi n1 out) ((.exit 0)) ((fun (y:List Int)=>Gf y) y):=
 aS (head:=fun (σ:Int×List Int)=>Gi σ.1 σ.2) (eo:=fun (_:List Int)=>(.exit 0)) (so:=fun (y:List Int)=>Gf y) (X3) (fun _ h=>by cases h) FU (n1,out)
def Jr (n:Int):Option (List Int):=
 (H9 n []).bind fun x0=>
 some x0
theorem Td (n:Int):∀r,Jr n=some r→aj Tryz.prog 159 0 [NI .u64 n] [] (SL (cI .u32) r) []:=
 ak (enc:=fun r=>SL (cI .u32) r) (aP:=fun r=>[]) 10 (.ps 1000001 [.k [0,3] [100010]] (.lp1 0 (XW n []) fun x0=>.oz 1 3 100010 1 (cI .u32) x0 (.ps 1 [.k [3] []] (.ret x0)))) Tryz.func159 (by kernel_rfl) (by kernel_rfl) (by kernel_rfl)
def G5 (n:Int):Option Whole:=
 bif decide (n≥0) then
 (Jr (IntKind.wrap .u64 n)).bind fun x0=>
 some (Whole.mk false x0)
 else
 (Jr (IntKind.wrap .u64 (0-(IntKind.wrap .u64 n)))).bind fun x0=>
 some (Whole.mk true x0)
theorem SB (n:Int):∀r,G5 n=some r→aj Tryz.prog 97 0 [I n] [] (AG Whole.D r) []:=
 ak (enc:=fun r=>AG Whole.D r) (aP:=fun r=>[]) 10 (.br 100000005 (.op 20002 .wr (.call [] [] (Td (IntKind.wrap .u64 n)) .no fun x0=>.ret (Whole.mk false x0))) (.op 30002 .wr (.call [] [] (Td (IntKind.wrap .u64 (0-(IntKind.wrap .u64 n)))) .no fun x0=>.ret (Whole.mk true x0)))) Tryz.func97 (by kernel_rfl) (by kernel_rfl) (by kernel_rfl)
def DN (l:List Int) (n:Nat) (i:Nat):St:=⟨19,0,[(0,SL (cI .u32) l),(3,I ((n:Nat):Int)),(4,I ((i:Nat):Int))],[]⟩
def Em (l:List Int) (n:Nat):St:=⟨19,0,[(3,I ((n:Nat):Int))],[]⟩
def l7 (l:List Int) (n:Nat) (i:Nat):Option ((Nat×Nat)⊕Nat):=
 bif decide (((i:Nat):Int)<((l.length:Nat):Int)) then
 bif decide (i<l.length) then
 bif (nth l i) != 0 then
 bif inK .i64 (((i:Nat):Int)+1) then
 bif inK .i64 (((i:Nat):Int)+1) then
 some (.inl (i+1,i+1))
 else none
 else none
 else
 bif inK .i64 (((i:Nat):Int)+1) then
 some (.inl (n,i+1))
 else none
 else none
 else
 some (.inr n)
theorem U9 (l:List Int):∀σ:Nat×Nat,aN Tryz.prog (nav [1,1,0,1,0,0] (ah Tryz.f253)) (fun (σ:Nat×Nat)=>DN l σ.1 σ.2) (fun (_:Nat)=>(.exit 0)) (fun (y:Nat)=>Em l y) σ (l7 l σ.1 σ.2)
 | (n,i)=>aF 1010 (.op 30004 (.ln (cI .u32) l) (.br 100000008 (.op 50004 (.el (cI .u32) l (.up i)) (.br 100000015 (.ps 1000003 [.k [0,3,4] []] (.ret (.inl (i+1,i+1)))) (.ps 1000003 [.k [0,3,4] []] (.ret (.inl (n,i+1)))))) (.ps 1000003 [.k [3] []] (.ret (.inr n))))) (by kernel_rfl)
def FQ (l:List Int) (n:Nat) (i:Nat):Option Nat:=aK (fun (σ:Nat×Nat)=>l7 l σ.1 σ.2) FU (n,i)
theorem WX (l:List Int) (n:Nat) (i:Nat):∀y:Nat,FQ l n i=some y→Runs Tryz.prog (.loop (nav [1,1,0,1,0,0] (ah Tryz.f253))) (DN l n i) ((.exit 0)) ((fun (y:Nat)=>Em l y) y):=
 aS (head:=fun (σ:Nat×Nat)=>DN l σ.1 σ.2) (eo:=fun (_:Nat)=>(.exit 0)) (so:=fun (y:Nat)=>Em l y) (U9 l) (fun _ h=>by cases h) FU (n,i)
def LV (l:List Int):Option Int:=
 (FQ l 0 0).bind fun x0=>
 some ((x0:Nat):Int)
theorem ZU (l:List Int):∀r,LV l=some r→aj Tryz.prog 253 0 [SL (cI .u32) l] [] (I r) []:=
 ak (enc:=fun r=>I r) (aP:=fun r=>[]) 10 (.ps 1000001 [.k [0,3,4] []] (.lp1 0 (WX l 0 0) fun x0=>.ret ((x0:Nat):Int))) Tryz.func253 (by kernel_rfl) (by kernel_rfl) (by kernel_rfl)
def Am (a:List Int) (x0:Int) (out:List Int) (i:Nat):St:=⟨21,0,[(0,SL (cI .u32) a),(3,I x0),(4,bI 100011 out),(5,I ((i:Nat):Int))],[(100011,bM 1 (cI .u32) out)]⟩
def Ag (a:List Int) (x0:Int) (out:List Int):St:=⟨21,0,[(4,bI 100011 out)],[(100011,bM 1 (cI .u32) out)]⟩
def nM (a:List Int) (x0:Int) (out:List Int) (i:Nat):Option ((List Int×Nat)⊕(List Int)):=
 bif decide (((i:Nat):Int)<x0) then
 bif decide (i<a.length) then
 bif decide (out.length+1≤2147483648) then
 bif inK .i64 (((i:Nat):Int)+1) then
 some (.inl (out++[nth a i],i+1))
 else none
 else none
 else none
 else
 some (.inr out)
theorem Tq (a:List Int) (x0:Int):∀σ:List Int×Nat,aN Tryz.prog (nav [1,1,1,0,1,0,0] (ah Tryz.f192)) (fun (σ:List Int×Nat)=>Am a x0 σ.1 σ.2) (fun (_:List Int)=>(.exit 0)) (fun (y:List Int)=>Ag a x0 y) σ (nM a x0 σ.1 σ.2)
 | ([],i)=>aF 1010 (.br 100000010 (.op 60006 (.el (cI .u32) a (.up i)) (.op 60012 (.ap (cI .u32) [] [nth a i] 1 fun _=>⟨rfl,rfl⟩) (.ps 1000003 [.k [0,3,4,5] [1011],.m 1011 100011] (.ret (.inl ([nth a i],i+1)))))) (.ps 1000003 [.k [4] [100011]] (.ret (.inr [])))) (by kernel_rfl)
 | (dP::dO,i)=>aF 1010 (.br 100000010 (.op 60006 (.el (cI .u32) a (.up i)) (.op 60012 (.ap (cI .u32) (dP::dO) [nth a i] 1 fun _=>⟨rfl,rfl⟩) (.ps 1000003 [.k [0,3,4,5] [1011],.m 1011 100011] (.ret (.inl ((dP::dO)++[nth a i],i+1)))))) (.ps 1000003 [.k [4] [100011]] (.ret (.inr (dP::dO))))) (by kernel_rfl)
def BD (a:List Int) (x0:Int) (out:List Int) (i:Nat):Option (List Int):=aK (fun (σ:List Int×Nat)=>nM a x0 σ.1 σ.2) FU (out,i)
theorem Uh (a:List Int) (x0:Int) (out:List Int) (i:Nat):∀y:List Int,BD a x0 out i=some y→Runs Tryz.prog (.loop (nav [1,1,1,0,1,0,0] (ah Tryz.f192))) (Am a x0 out i) ((.exit 0)) ((fun (y:List Int)=>Ag a x0 y) y):=
 aS (head:=fun (σ:List Int×Nat)=>Am a x0 σ.1 σ.2) (eo:=fun (_:List Int)=>(.exit 0)) (so:=fun (y:List Int)=>Ag a x0 y) (Tq a x0) (fun _ h=>by cases h) FU (out,i)
def gJ (a:List Int):Option (List Int):=
 (LV a).bind fun x0=>
 (BD a x0 [] 0).bind fun x1=>
 some x1
theorem fC (a:List Int):∀r,gJ a=some r→aj Tryz.prog 192 0 [SL (cI .u32) a] [] (SL (cI .u32) r) []:=
 ak (enc:=fun r=>SL (cI .u32) r) (aP:=fun r=>[]) 10 (.call [] [] (ZU a) .no fun x0=>.ps 1000001 [.k [0,3,4,5] [100011]] (.lp1 0 (Uh a x0 [] 0) fun x1=>.oz 1 4 100011 1 (cI .u32) x1 (.ps 1 [.k [4] []] (.ret x1)))) Tryz.func192 (by kernel_rfl) (by kernel_rfl) (by kernel_rfl)
def Ey (a:List Int) (w:Int) (out:List Int) (carry:Int) (i:Nat):St:=⟨44,0,[(0,SL (cI .u32) a),(1,NI .u32 w),(7,bI 100012 out),(8,NI .u64 carry),(9,I ((i:Nat):Int))],[(100012,bM 1 (cI .u32) out)]⟩
def Et (a:List Int) (w:Int) (out:List Int) (carry:Int):St:=⟨44,0,[(7,bI 100012 out),(8,NI .u64 carry)],[(100012,bM 1 (cI .u32) out)]⟩
def oK (a:List Int) (w:Int) (out:List Int) (carry:Int) (i:Nat):Option ((List Int×Int×Nat)⊕(List Int×Int)):=
 bif decide (((i:Nat):Int)<((a.length:Nat):Int)) then
 bif decide (i<a.length) then
 bif inK .u64 (nth a i) then
 bif inK .u64 w then
 bif decide (0≤IntKind.wrap .u64 ((IntKind.wrap .u64 ((nth a i)*w))+carry)) then
 bif decide (0<4294967296) then
 bif decide (out.length+1≤2147483648) then
 bif decide (0≤IntKind.wrap .u64 ((IntKind.wrap .u64 ((nth a i)*w))+carry)) then
 bif decide (0<4294967296) then
 bif decide (IntKind.wrap .u64 ((IntKind.wrap .u64 ((nth a i)*w))+carry)≤Go.Ab.hi .u64) then
 bif inK .i64 (((i:Nat):Int)+1) then
 some (.inl (out++[IntKind.wrap .u32 ((IntKind.wrap .u64 ((IntKind.wrap .u64 ((nth a i)*w))+carry))%4294967296)],(IntKind.wrap .u64 ((IntKind.wrap .u64 ((nth a i)*w))+carry))/4294967296,i+1))
 else none
 else none
 else none
 else none
 else none
 else none
 else none
 else none
 else none
 else none
 else
 some (.inr (out,carry))
theorem U2 (a:List Int) (w:Int):∀σ:List Int×Int×Nat,aN Tryz.prog (nav [1,1,1,0,1,0,0] (ah Tryz.f165)) (fun (σ:List Int×Int×Nat)=>Ey a w σ.1 σ.2.1 σ.2.2) (fun (_:List Int×Int)=>(.exit 0)) (fun (y:List Int×Int)=>Et a w y.1 y.2) σ (oK a w σ.1 σ.2.1 σ.2.2)
 | ([],carry,i)=>aF 1010 (.op 40004 (.ln (cI .u32) a) (.br 100000016 (.op 60004 (.el (cI .u32) a (.up i)) (.op 70006 .wr (.op 70010 (.ap (cI .u32) [] [IntKind.wrap .u32 ((IntKind.wrap .u64 ((IntKind.wrap .u64 ((nth a i)*w))+carry))%4294967296)] 1 fun _=>⟨rfl,rfl⟩) (.ps 1000003 [.k [0,1,7,8,9] [1011],.m 1011 100012] (.ret (.inl ([IntKind.wrap .u32 ((IntKind.wrap .u64 ((IntKind.wrap .u64 ((nth a i)*w))+carry))%4294967296)],(IntKind.wrap .u64 ((IntKind.wrap .u64 ((nth a i)*w))+carry))/4294967296,i+1))))))) (.ps 1000003 [.k [7,8] [100012]] (.ret (.inr ([],carry)))))) (by kernel_rfl)
 | (dP::dO,carry,i)=>aF 1010 (.op 40004 (.ln (cI .u32) a) (.br 100000016 (.op 60004 (.el (cI .u32) a (.up i)) (.op 70006 .wr (.op 70010 (.ap (cI .u32) (dP::dO) [IntKind.wrap .u32 ((IntKind.wrap .u64 ((IntKind.wrap .u64 ((nth a i)*w))+carry))%4294967296)] 1 fun _=>⟨rfl,rfl⟩) (.ps 1000003 [.k [0,1,7,8,9] [1011],.m 1011 100012] (.ret (.inl ((dP::dO)++[IntKind.wrap .u32 ((IntKind.wrap .u64 ((IntKind.wrap .u64 ((nth a i)*w))+carry))%4294967296)],(IntKind.wrap .u64 ((IntKind.wrap .u64 ((nth a i)*w))+carry))/4294967296,i+1))))))) (.ps 1000003 [.k [7,8] [100012]] (.ret (.inr ((dP::dO),carry)))))) (by kernel_rfl)
def Fb (a:List Int) (w:Int) (out:List Int) (carry:Int) (i:Nat):Option (List Int×Int):=aK (fun (σ:List Int×Int×Nat)=>oK a w σ.1 σ.2.1 σ.2.2) FU (out,carry,i)
theorem Vr (a:List Int) (w:Int) (out:List Int) (carry:Int) (i:Nat):∀y:List Int×Int,Fb a w out carry i=some y→Runs Tryz.prog (.loop (nav [1,1,1,0,1,0,0] (ah Tryz.f165))) (Ey a w out carry i) ((.exit 0)) ((fun (y:List Int×Int)=>Et a w y.1 y.2) y):=
 aS (head:=fun (σ:List Int×Int×Nat)=>Ey a w σ.1 σ.2.1 σ.2.2) (eo:=fun (_:List Int×Int)=>(.exit 0)) (so:=fun (y:List Int×Int)=>Et a w y.1 y.2) (U2 a w) (fun _ h=>by cases h) FU (out,carry,i)
def jy (a:List Int) (w:Int) (c:Int):Option (List Int):=
 bif inK .u64 c then
 (Fb a w [] c 0).bind fun x0=>
 bif x0.1.isEmpty then
 (gJ [IntKind.wrap .u32 x0.2]).bind fun x1=>
 some x1
 else
 bif decide (x0.1.length+1≤2147483648) then
 (gJ (x0.1++[IntKind.wrap .u32 x0.2])).bind fun x1=>
 some x1
 else none
 else none
theorem wI (a:List Int) (w:Int) (c:Int):∀r,jy a w c=some r→aj Tryz.prog 165 0 [SL (cI .u32) a,NI .u32 w,NI .u32 c] [] (SL (cI .u32) r) []:=
 ak (enc:=fun r=>SL (cI .u32) r) (aP:=fun r=>[]) 10 (.ps 1000001 [.k [0,1,7,8,9] [100012]] (.lp1 0 (Vr a w [] c 0) fun x0=>.cl 1 7 100012 1 (cI .u32) x0.1 (.ps 1 [.k [7,8] []] (.op 90004 .wr (.op 90008 (.ap (cI .u32) [] [IntKind.wrap .u32 x0.2] 1 fun _=>⟨rfl,rfl⟩) (.call [] [] (fC [IntKind.wrap .u32 x0.2]) .no fun x1=>.ret x1)))) (.ps 1 [.k [7,8] [100012]] (.op 90004 .wr (.op 90008 (.ap (cI .u32) x0.1 [IntKind.wrap .u32 x0.2] 1 fun _=>⟨rfl,rfl⟩) (.call [] [] (fC (x0.1++[IntKind.wrap .u32 x0.2])) .no fun x1=>.ret x1)))))) Tryz.func165 (by kernel_rfl) (by kernel_rfl) (by kernel_rfl)
def Lp (a:List Int) (i:Int):Option Int:=
 bif decide (0≤i) then
 bif decide (0<32) then
 bif decide (i≤Go.Ab.hi .i64) then
 bif decide (0≤i/32) then
 bif decide ((i/32).toNat<a.length) then
 bif decide (0≤i) then
 bif decide (0<32) then
 bif decide (0≤i%32) then
 some (ahS .u32 (nS .u32 (nth a ((i/32).toNat)) (i%32)) 1)
 else none
 else none
 else none
 else none
 else none
 else none
 else none
 else none
theorem YR (a:List Int) (i:Int):∀r,Lp a i=some r→aj Tryz.prog 269 0 [SL (cI .u32) a,I i] [] (NI .u32 r) []:=
 ak (enc:=fun r=>NI .u32 r) (aP:=fun r=>[]) 10 (.op 10006 (.el (cI .u32) a .dn) (.ret (ahS .u32 (nS .u32 (nth a ((i/32).toNat)) (i%32)) 1))) Tryz.func269 (by kernel_rfl) (by kernel_rfl) (by kernel_rfl)
def nT (a:List Int) (i:Int):Option Int:=
 bif decide (i<0) then
 some 0
 else
 bif decide (i≥((a.length:Nat):Int)) then
 some 0
 else
 bif decide (0≤i) then
 bif decide (i.toNat<a.length) then
 bif inK .u64 (nth a i.toNat) then
 some (nth a i.toNat)
 else none
 else none
 else none
theorem gQ (a:List Int) (i:Int):∀r,nT a i=some r→aj Tryz.prog 218 0 [SL (cI .u32) a,I i] [] (NI .u64 r) []:=
 ak (enc:=fun r=>NI .u64 r) (aP:=fun r=>[]) 10 (.br 10006 (.ret 0) (.op 10010 (.ln (cI .u32) a) (.br 100000012 (.ret 0) (.op 30004 (.el (cI .u32) a .dn) (.ret (nth a i.toNat)))))) Tryz.func218 (by kernel_rfl) (by kernel_rfl) (by kernel_rfl)
def D5 (a:List Int) (b:List Int) (i:Int):St:=⟨32,0,[(0,SL (cI .u32) a),(1,SL (cI .u32) b),(6,I i)],[]⟩
def DU (a:List Int) (b:List Int) (i:Int):St:=⟨32,0,[(4,I i)],[]⟩
def D7 (a:List Int) (b:List Int):St:=⟨32,0,[],[]⟩
def lS (a:List Int) (b:List Int) (i:Int):Option (Int⊕(Int⊕Unit)):=
 bif decide (i≥0) then
 (nT a i).bind fun x0=>
 (nT b i).bind fun x1=>
 bif decide (x0<x1) then
 some (.inr (.inl (-1)))
 else
 (nT a i).bind fun x2=>
 (nT b i).bind fun x3=>
 bif decide (x2>x3) then
 some (.inr (.inl 1))
 else
 bif inK .i64 (i-1) then
 some (.inl (i-1))
 else none
 else
 some (.inr (.inr ()))
theorem Vw (a:List Int) (b:List Int):∀σ:Int,aN Tryz.prog (nav [1,1,0,1,0,0] (ah Tryz.f162)) (fun (σ:Int)=>D5 a b σ) (fun (y:Int⊕Unit)=>aH y (fun _=>.ret) (fun _=>(.exit 0))) (fun (y:Int⊕Unit)=>aH y (fun y=>DU a b y) (fun y=>D7 a b)) σ (lS a b σ)
 | i=>aF 1010 (.br 100000015 (.call [] [] (gQ a i) .no fun x0=>.call [] [] (gQ b i) .no fun x1=>.br 100000024 (.ps 1000003 [.k [4] []] (.ret (.inr (.inl (-1))))) (.call [] [] (gQ a i) .no fun x2=>.call [] [] (gQ b i) .no fun x3=>.br 100000031 (.ps 1000003 [.k [4] []] (.ret (.inr (.inl 1)))) (.ps 1000003 [.k [0,1,6] []] (.ret (.inl (i-1)))))) (.ps 1000003 [.k [] []] (.ret (.inr (.inr ()))))) (by kernel_rfl)
def Js (a:List Int) (b:List Int) (i:Int):Option (Int⊕Unit):=aK (fun (σ:Int)=>lS a b σ) FU i
theorem WC (a:List Int) (b:List Int) (i:Int):∀y:Int⊕Unit,Js a b i=some y→Runs Tryz.prog (.loop (nav [1,1,0,1,0,0] (ah Tryz.f162))) (D5 a b i) (aH y (fun _=>.ret) (fun _=>(.exit 0))) ((fun (y:Int⊕Unit)=>aH y (fun y=>DU a b y) (fun y=>D7 a b)) y):=
 aS (head:=fun (σ:Int)=>D5 a b σ) (eo:=fun (y:Int⊕Unit)=>aH y (fun _=>.ret) (fun _=>(.exit 0))) (so:=fun (y:Int⊕Unit)=>aH y (fun y=>DU a b y) (fun y=>D7 a b)) (Vw a b) (fun y h=>by rcases y with y | y<;>cases h) FU i
def uF (a:List Int) (b:List Int):Option Int:=
 bif inK .i64 ((mxI ((a.length:Nat):Int) ((b.length:Nat):Int))-1) then
 (Js a b ((mxI ((a.length:Nat):Int) ((b.length:Nat):Int))-1)).bind fun y_=>aH y_ (fun x0=>
 some x0)
 (fun x1=>
 some 0)
 else none
theorem wF (a:List Int) (b:List Int):∀r,uF a b=some r→aj Tryz.prog 162 0 [SL (cI .u32) a,SL (cI .u32) b] [] (I r) []:=
 ak (enc:=fun r=>I r) (aP:=fun r=>[]) 10 (.op 10002 (.ln (cI .u32) a) (.op 10006 (.ln (cI .u32) b) (.ps 1000001 [.k [0,1,6] []] (.lp2 0 (WC a b ((mxI ((a.length:Nat):Int) ((b.length:Nat):Int))-1)) (fun x0=>.ret x0) (fun x1=>.ret 0))))) Tryz.func162 (by kernel_rfl) (by kernel_rfl) (by kernel_rfl)
def EC (a:List Int) (b:List Int) (out:List Int) (borrow:Int) (i:Nat):St:=⟨41,0,[(0,SL (cI .u32) a),(1,SL (cI .u32) b),(6,bI 100013 out),(7,NI .u64 borrow),(8,I ((i:Nat):Int))],[(100013,bM 1 (cI .u32) out)]⟩
def Dq (a:List Int) (b:List Int) (out:List Int):St:=⟨41,0,[(6,bI 100013 out)],[(100013,bM 1 (cI .u32) out)]⟩
def oD (a:List Int) (b:List Int) (out:List Int) (borrow:Int) (i:Nat):Option ((List Int×Int×Nat)⊕(List Int)):=
 bif decide (((i:Nat):Int)<((a.length:Nat):Int)) then
 (nT a ((i:Nat):Int)).bind fun x1=>
 (nT b ((i:Nat):Int)).bind fun x2=>
 bif decide (0≤IntKind.wrap .u64 ((IntKind.wrap .u64 ((IntKind.wrap .u64 (4294967296+x1))-x2))-borrow)) then
 bif decide (0<4294967296) then
 bif decide (out.length+1≤2147483648) then
 bif decide (0≤IntKind.wrap .u64 ((IntKind.wrap .u64 ((IntKind.wrap .u64 (4294967296+x1))-x2))-borrow)) then
 bif decide (0<4294967296) then
 bif decide (IntKind.wrap .u64 ((IntKind.wrap .u64 ((IntKind.wrap .u64 (4294967296+x1))-x2))-borrow)≤Go.Ab.hi .u64) then
 bif inK .i64 (((i:Nat):Int)+1) then
 some (.inl (out++[IntKind.wrap .u32 ((IntKind.wrap .u64 ((IntKind.wrap .u64 ((IntKind.wrap .u64 (4294967296+x1))-x2))-borrow))%4294967296)],IntKind.wrap .u64 (1-((IntKind.wrap .u64 ((IntKind.wrap .u64 ((IntKind.wrap .u64 (4294967296+x1))-x2))-borrow))/4294967296)),i+1))
 else none
 else none
 else none
 else none
 else none
 else none
 else none
 else
 some (.inr out)
theorem U8 (a:List Int) (b:List Int):∀σ:List Int×Int×Nat,aN Tryz.prog (nav [1,1,1,1,0,1,0,0] (ah Tryz.f163)) (fun (σ:List Int×Int×Nat)=>EC a b σ.1 σ.2.1 σ.2.2) (fun (_:List Int)=>(.exit 0)) (fun (y:List Int)=>Dq a b y) σ (oD a b σ.1 σ.2.1 σ.2.2)
 | ([],borrow,i)=>aF 1010 (.op 60004 (.ln (cI .u32) a) (.br 100000017 (.call [] [] (gQ a ((i:Nat):Int)) .no fun x1=>.call [] [] (gQ b ((i:Nat):Int)) .no fun x2=>.op 90006 .wr (.op 90010 (.ap (cI .u32) [] [IntKind.wrap .u32 ((IntKind.wrap .u64 ((IntKind.wrap .u64 ((IntKind.wrap .u64 (4294967296+x1))-x2))-borrow))%4294967296)] 1 fun _=>⟨rfl,rfl⟩) (.ps 1000003 [.k [0,1,6,7,8] [1011],.m 1011 100013] (.ret (.inl ([IntKind.wrap .u32 ((IntKind.wrap .u64 ((IntKind.wrap .u64 ((IntKind.wrap .u64 (4294967296+x1))-x2))-borrow))%4294967296)],IntKind.wrap .u64 (1-((IntKind.wrap .u64 ((IntKind.wrap .u64 ((IntKind.wrap .u64 (4294967296+x1))-x2))-borrow))/4294967296)),i+1)))))) (.ps 1000003 [.k [6] [100013]] (.ret (.inr []))))) (by kernel_rfl)
 | (dP::dO,borrow,i)=>aF 1010 (.op 60004 (.ln (cI .u32) a) (.br 100000017 (.call [] [] (gQ a ((i:Nat):Int)) .no fun x1=>.call [] [] (gQ b ((i:Nat):Int)) .no fun x2=>.op 90006 .wr (.op 90010 (.ap (cI .u32) (dP::dO) [IntKind.wrap .u32 ((IntKind.wrap .u64 ((IntKind.wrap .u64 ((IntKind.wrap .u64 (4294967296+x1))-x2))-borrow))%4294967296)] 1 fun _=>⟨rfl,rfl⟩) (.ps 1000003 [.k [0,1,6,7,8] [1011],.m 1011 100013] (.ret (.inl ((dP::dO)++[IntKind.wrap .u32 ((IntKind.wrap .u64 ((IntKind.wrap .u64 ((IntKind.wrap .u64 (4294967296+x1))-x2))-borrow))%4294967296)],IntKind.wrap .u64 (1-((IntKind.wrap .u64 ((IntKind.wrap .u64 ((IntKind.wrap .u64 (4294967296+x1))-x2))-borrow))/4294967296)),i+1)))))) (.ps 1000003 [.k [6] [100013]] (.ret (.inr (dP::dO)))))) (by kernel_rfl)
def FD (a:List Int) (b:List Int) (out:List Int) (borrow:Int) (i:Nat):Option (List Int):=aK (fun (σ:List Int×Int×Nat)=>oD a b σ.1 σ.2.1 σ.2.2) FU (out,borrow,i)
theorem WB (a:List Int) (b:List Int) (out:List Int) (borrow:Int) (i:Nat):∀y:List Int,FD a b out borrow i=some y→Runs Tryz.prog (.loop (nav [1,1,1,1,0,1,0,0] (ah Tryz.f163))) (EC a b out borrow i) ((.exit 0)) ((fun (y:List Int)=>Dq a b y) y):=
 aS (head:=fun (σ:List Int×Int×Nat)=>EC a b σ.1 σ.2.1 σ.2.2) (eo:=fun (_:List Int)=>(.exit 0)) (so:=fun (y:List Int)=>Dq a b y) (U8 a b) (fun _ h=>by cases h) FU (out,borrow,i)
def uG (a:List Int) (b:List Int):Option (List Int×Bool):=
 (uF a b).bind fun x0=>
 bif decide (x0<0) then
 some ([],false)
 else
 (FD a b [] 0 0).bind fun x1=>
 (gJ x1).bind fun x2=>
 some (x2,true)
theorem wu (a:List Int) (b:List Int):∀r,uG a b=some r→aj Tryz.prog 163 0 [SL (cI .u32) a,SL (cI .u32) b] [] (.tup [SL (cI .u32) r.1,B r.2]) []:=
 ak (enc:=fun r=>.tup [SL (cI .u32) r.1,B r.2]) (aP:=fun r=>[]) 10 (.call [] [] (wF a b) .no fun x0=>.br 100000013 (.ps 1000003 [.n 4] (.ret ([],false))) (.ps 1000001 [.k [0,1,6,7,8] [100013]] (.lp1 0 (WB a b [] 0 0) fun x1=>.oz 1 6 100013 1 (cI .u32) x1 (.ps 1 [.k [6] []] (.call [] [] (fC x1) .no fun x2=>.ret (x2,true)))))) Tryz.func163 (by kernel_rfl) (by kernel_rfl) (by kernel_rfl)
def Ec (a:List Int) (x0:List Int) (q:List Int) (r:List Int) (i:Int):St:=⟨45,0,[(0,SL (cI .u32) a),(7,SL (cI .u32) x0),(8,SL (cI .u32) q),(9,SL (cI .u32) r),(10,I i)],[]⟩
def En (a:List Int) (x0:List Int) (q:List Int) (r:List Int):St:=⟨45,0,[(8,SL (cI .u32) q),(9,SL (cI .u32) r)],[]⟩
def jE (a:List Int) (x0:List Int) (q:List Int) (r:List Int) (i:Int):Option ((List Int×List Int×Int)⊕(List Int×List Int)):=
 bif decide (i≥0) then
 (jy q 2 0).bind fun x1=>
 (Lp a i).bind fun x2=>
 (jy r 2 x2).bind fun x3=>
 (uF x3 x0).bind fun x4=>
 bif decide (x4≥0) then
 (uG x3 x0).bind fun x5=>
 (jy x1 1 1).bind fun x6=>
 bif inK .i64 (i-1) then
 some (.inl (x6,x5.1,i-1))
 else none
 else
 bif inK .i64 (i-1) then
 some (.inl (x1,x3,i-1))
 else none
 else
 some (.inr (q,r))
theorem WE (a:List Int) (x0:List Int):∀σ:List Int×List Int×Int,aN Tryz.prog (nav [1,1,1,1,1,0,1,0,0] (ah Tryz.f217)) (fun (σ:List Int×List Int×Int)=>Ec a x0 σ.1 σ.2.1 σ.2.2) (fun (_:List Int×List Int)=>(.exit 0)) (fun (y:List Int×List Int)=>En a x0 y.1 y.2) σ (jE a x0 σ.1 σ.2.1 σ.2.2)
 | (q,r,i)=>aF 1010 (.br 100000021 (.call [] [] (wI q 2 0) .no fun x1=>.call [] [] (YR a i) .no fun x2=>.call [] [] (wI r 2 x2) .no fun x3=>.call [] [] (wF x3 x0) .no fun x4=>.br 100000034 (.call [] [] (wu x3 x0) .no fun x5=>.call [] [] (wI x1 1 1) .no fun x6=>.ps 1000003 [.k [0,7,8,9,10] []] (.ret (.inl (x6,x5.1,i-1)))) (.ps 1000003 [.k [0,7,8,9,10] []] (.ret (.inl (x1,x3,i-1))))) (.ps 1000003 [.k [8,9] []] (.ret (.inr (q,r))))) (by kernel_rfl)
def FP (a:List Int) (x0:List Int) (q:List Int) (r:List Int) (i:Int):Option (List Int×List Int):=aK (fun (σ:List Int×List Int×Int)=>jE a x0 σ.1 σ.2.1 σ.2.2) FU (q,r,i)
theorem Vo (a:List Int) (x0:List Int) (q:List Int) (r:List Int) (i:Int):∀y:List Int×List Int,FP a x0 q r i=some y→Runs Tryz.prog (.loop (nav [1,1,1,1,1,0,1,0,0] (ah Tryz.f217))) (Ec a x0 q r i) ((.exit 0)) ((fun (y:List Int×List Int)=>En a x0 y.1 y.2) y):=
 aS (head:=fun (σ:List Int×List Int×Int)=>Ec a x0 σ.1 σ.2.1 σ.2.2) (eo:=fun (_:List Int×List Int)=>(.exit 0)) (so:=fun (y:List Int×List Int)=>En a x0 y.1 y.2) (WE a x0) (fun _ h=>by cases h) FU (q,r,i)
def Cm (a:List Int) (b:List Int):Option (List Int×List Int×Bool):=
 (gJ b).bind fun x0=>
 bif ((x0.length:Nat):Int)==0 then
 some ([],[],false)
 else
 bif inK .i64 (32*((a.length:Nat):Int)) then
 bif inK .i64 ((32*((a.length:Nat):Int))-1) then
 (FP a x0 [] [] ((32*((a.length:Nat):Int))-1)).bind fun x1=>
 some (x1.1,x1.2,true)
 else none
 else none
theorem Ia (a:List Int) (b:List Int):∀r,Cm a b=some r→aj Tryz.prog 217 0 [SL (cI .u32) a,SL (cI .u32) b] [] (.tup [SL (cI .u32) r.1,SL (cI .u32) r.2.1,B r.2.2]) []:=
 ak (enc:=fun r=>.tup [SL (cI .u32) r.1,SL (cI .u32) r.2.1,B r.2.2]) (aP:=fun r=>[]) 10 (.call [] [] (fC b) .no fun x0=>.op 20002 (.ln (cI .u32) x0) (.br 100000015 (.ps 1000003 [.n 4,.n 5] (.ret ([],[],false))) (.op 60002 (.ln (cI .u32) a) (.ps 1000001 [.n 8,.n 9,.k [0,7,8,9,10] []] (.lp1 0 (Vo a x0 [] [] ((32*((a.length:Nat):Int))-1)) fun x1=>.ret (x1.1,x1.2,true)))))) Tryz.func217 (by kernel_rfl) (by kernel_rfl) (by kernel_rfl)
def mJ (a:List Int) (d:Int):Option (List Int×Int×Bool):=
 (Cm a [d]).bind fun x0=>
 bif ((x0.2.1.length:Nat):Int)==0 then
 some (x0.1,0,x0.2.2)
 else
 bif decide (0<x0.2.1.length) then
 some (x0.1,nth x0.2.1 0,x0.2.2)
 else none
theorem JK (a:List Int) (d:Int):∀r,mJ a d=some r→aj Tryz.prog 193 0 [SL (cI .u32) a,NI .u32 d] [] (.tup [SL (cI .u32) r.1,NI .u32 r.2.1,B r.2.2]) []:=
 ak (enc:=fun r=>.tup [SL (cI .u32) r.1,NI .u32 r.2.1,B r.2.2]) (aP:=fun r=>[]) 10 (.call [] [] (Ia a [d]) .no fun x0=>.op 20002 (.ln (cI .u32) x0.2.1) (.br 100000020 (.ret (x0.1,0,x0.2.2)) (.op 40004 (.el (cI .u32) x0.2.1 (.up 0)) (.ret (x0.1,nth x0.2.1 0,x0.2.2))))) Tryz.func193 (by kernel_rfl) (by kernel_rfl) (by kernel_rfl)
def DY (a1:List Int) (n:Nat):St:=⟨25,0,[(0,SL (cI .u32) a1),(4,I ((n:Nat):Int))],[]⟩
def EH (a1:List Int) (n:Nat):St:=⟨25,0,[(0,SL (cI .u32) a1),(4,I ((n:Nat):Int))],[]⟩
def jM (a1:List Int) (n:Nat):Option ((List Int×Nat)⊕(List Int×Nat)):=
 bif decide (((a1.length:Nat):Int)>0) then
 bif decide (0<a1.length) then
 bif decide (0≤nth a1 0) then
 bif decide (0<2) then
 bif ((nth a1 0)%2)==0 then
 (mJ a1 2).bind fun x0=>
 bif inK .i64 (((n:Nat):Int)+1) then
 some (.inl (x0.1,n+1))
 else none
 else
 some (.inr (a1,n))
 else none
 else none
 else none
 else
 some (.inr (a1,n))
theorem V5:∀σ:List Int×Nat,aN Tryz.prog (nav [1,1,0,0,0] (ah Tryz.f267)) (fun (σ:List Int×Nat)=>DY σ.1 σ.2) (fun (_:List Int×Nat)=>(.exit 0)) (fun (y:List Int×Nat)=>EH y.1 y.2) σ (jM σ.1 σ.2)
 | (a1,n)=>aF 1010 (.op 20002 (.ln (cI .u32) a1) (.br 20008 (.op 20010 (.el (cI .u32) a1 (.up 0)) (.br 100000014 (.call [] [] (JK a1 2) .no fun x0=>.ps 1000003 [.k [0,4] []] (.ret (.inl (x0.1,n+1)))) (.ps 1000003 [.k [0,4] []] (.ret (.inr (a1,n)))))) (.ps 1000003 [.k [0,4] []] (.ret (.inr (a1,n)))))) (by kernel_rfl)
def JQ (a1:List Int) (n:Nat):Option (List Int×Nat):=aK (fun (σ:List Int×Nat)=>jM σ.1 σ.2) FU (a1,n)
theorem Ve (a1:List Int) (n:Nat):∀y:List Int×Nat,JQ a1 n=some y→Runs Tryz.prog (.loop (nav [1,1,0,0,0] (ah Tryz.f267))) (DY a1 n) ((.exit 0)) ((fun (y:List Int×Nat)=>EH y.1 y.2) y):=
 aS (head:=fun (σ:List Int×Nat)=>DY σ.1 σ.2) (eo:=fun (_:List Int×Nat)=>(.exit 0)) (so:=fun (y:List Int×Nat)=>EH y.1 y.2) (V5) (fun _ h=>by cases h) FU (a1,n)
def yD (a:List Int):Option (List Int×Int):=
 (JQ a 0).bind fun x0=>
 some (x0.1,((x0.2:Nat):Int))
theorem BI (a:List Int):∀r,yD a=some r→aj Tryz.prog 267 0 [SL (cI .u32) a] [] (.tup [SL (cI .u32) r.1,I r.2]) []:=
 ak (enc:=fun r=>.tup [SL (cI .u32) r.1,I r.2]) (aP:=fun r=>[]) 10 (.ps 1000001 [.k [0,4] []] (.lp1 0 (Ve a 0) fun x0=>.ret (x0.1,((x0.2:Nat):Int)))) Tryz.func267 (by kernel_rfl) (by kernel_rfl) (by kernel_rfl)
def Dk (x2:List Int×Int) (x3:List Int×Int) (x:List Int) (y1:List Int):St:=⟨59,0,[(5,SL (cI .u32) x),(6,SL (cI .u32) y1),(7,I x2.2),(8,I x3.2)],[]⟩
def D8 (x2:List Int×Int) (x3:List Int×Int) (x:List Int):St:=⟨59,0,[(5,SL (cI .u32) x),(7,I x2.2),(8,I x3.2)],[]⟩
def lG (x2:List Int×Int) (x3:List Int×Int) (x:List Int) (y1:List Int):Option ((List Int×List Int)⊕(List Int)):=
 (uF x y1).bind fun x4=>
 bif x4 != 0 then
 (uF x y1).bind fun x5=>
 bif decide (x5<0) then
 (uG y1 x).bind fun x6=>
 (yD x6.1).bind fun x7=>
 some (.inl (x7.1,x))
 else
 (uG x y1).bind fun x6=>
 (yD x6.1).bind fun x7=>
 some (.inl (x7.1,y1))
 else
 some (.inr x)
theorem W9 (x2:List Int×Int) (x3:List Int×Int):∀σ:List Int×List Int,aN Tryz.prog (nav [1,1,1,1,1,1,1,0,0,0] (ah Tryz.f216)) (fun (σ:List Int×List Int)=>Dk x2 x3 σ.1 σ.2) (fun (_:List Int)=>(.exit 0)) (fun (y:List Int)=>D8 x2 x3 y) σ (lG x2 x3 σ.1 σ.2)
 | (x,y1)=>aF 1010 (.call [] [] (wF x y1) .no fun x4=>.br 100000035 (.call [] [] (wF x y1) .no fun x5=>.br 100000039 (.call [] [] (wu y1 x) .no fun x6=>.call [] [] (BI x6.1) .no fun x7=>.ps 1000003 [.k [5,6,7,8] []] (.ret (.inl (x7.1,x)))) (.call [] [] (wu x y1) .no fun x6=>.call [] [] (BI x6.1) .no fun x7=>.ps 1000003 [.k [5,6,7,8] []] (.ret (.inl (x7.1,y1))))) (.ps 1000003 [.k [5,7,8] []] (.ret (.inr x)))) (by kernel_rfl)
def Jv (x2:List Int×Int) (x3:List Int×Int) (x:List Int) (y1:List Int):Option (List Int):=aK (fun (σ:List Int×List Int)=>lG x2 x3 σ.1 σ.2) FU (x,y1)
theorem Wx (x2:List Int×Int) (x3:List Int×Int) (x:List Int) (y1:List Int):∀y:List Int,Jv x2 x3 x y1=some y→Runs Tryz.prog (.loop (nav [1,1,1,1,1,1,1,0,0,0] (ah Tryz.f216))) (Dk x2 x3 x y1) ((.exit 0)) ((fun (y:List Int)=>D8 x2 x3 y) y):=
 aS (head:=fun (σ:List Int×List Int)=>Dk x2 x3 σ.1 σ.2) (eo:=fun (_:List Int)=>(.exit 0)) (so:=fun (y:List Int)=>D8 x2 x3 y) (W9 x2 x3) (fun _ h=>by cases h) FU (x,y1)
def wZ (n:Int) (out:List Int) (i:Nat):St:=⟨26,0,[(1,I n),(5,SL (cI .u32) out),(6,I ((i:Nat):Int))],[]⟩
def xW (n:Int) (out:List Int):St:=⟨26,0,[(5,SL (cI .u32) out)],[]⟩
def lK (n:Int) (out:List Int) (i:Nat):Option ((List Int×Nat)⊕(List Int)):=
 bif decide (((i:Nat):Int)<n) then
 bif decide (((i:Nat):Int)<100000) then
 bif decide (((out.length:Nat):Int)>0) then
 (jy out 2 0).bind fun x1=>
 bif inK .i64 (((i:Nat):Int)+1) then
 some (.inl (x1,i+1))
 else none
 else
 some (.inr out)
 else
 some (.inr out)
 else
 some (.inr out)
theorem Ro (n:Int):∀σ:List Int×Nat,aN Tryz.prog (nav [1,1,0,1,0,0] (ah Tryz.f268)) (fun (σ:List Int×Nat)=>wZ n σ.1 σ.2) (fun (_:List Int)=>(.exit 0)) (fun (y:List Int)=>xW n y) σ (lK n σ.1 σ.2)
 | (out,i)=>aF 1010 (.br 30008 (.br 30016 (.op 30018 (.ln (cI .u32) out) (.br 100000020 (.call [] [] (wI out 2 0) .no fun x1=>.ps 1000003 [.k [1,5,6] []] (.ret (.inl (x1,i+1)))) (.ps 1000003 [.k [5] []] (.ret (.inr out))))) (.ps 1000003 [.k [5] []] (.ret (.inr out)))) (.ps 1000003 [.k [5] []] (.ret (.inr out)))) (by kernel_rfl)
def yV (n:Int) (out:List Int) (i:Nat):Option (List Int):=aK (fun (σ:List Int×Nat)=>lK n σ.1 σ.2) FU (out,i)
theorem Rz (n:Int) (out:List Int) (i:Nat):∀y:List Int,yV n out i=some y→Runs Tryz.prog (.loop (nav [1,1,0,1,0,0] (ah Tryz.f268))) (wZ n out i) ((.exit 0)) ((fun (y:List Int)=>xW n y) y):=
 aS (head:=fun (σ:List Int×Nat)=>wZ n σ.1 σ.2) (eo:=fun (_:List Int)=>(.exit 0)) (so:=fun (y:List Int)=>xW n y) (Ro n) (fun _ h=>by cases h) FU (out,i)
def Fe (a:List Int) (n:Int):Option (List Int):=
 (gJ a).bind fun x0=>
 (yV n x0 0).bind fun x1=>
 some x1
theorem VQ (a:List Int) (n:Int):∀r,Fe a n=some r→aj Tryz.prog 268 0 [SL (cI .u32) a,I n] [] (SL (cI .u32) r) []:=
 ak (enc:=fun r=>SL (cI .u32) r) (aP:=fun r=>[]) 10 (.call [] [] (fC a) .no fun x0=>.ps 1000001 [.k [1,5,6] []] (.lp1 0 (Rz n x0 0) fun x1=>.ret x1)) Tryz.func268 (by kernel_rfl) (by kernel_rfl) (by kernel_rfl)
def CB (a:List Int) (b:List Int):Option (List Int):=
 (gJ a).bind fun x0=>
 (gJ b).bind fun x1=>
 bif ((x0.length:Nat):Int)==0 then
 some x1
 else
 bif ((x1.length:Nat):Int)==0 then
 some x0
 else
 (yD x0).bind fun x2=>
 (yD x1).bind fun x3=>
 (Jv x2 x3 x2.1 x3.1).bind fun x4=>
 (Fe x4 (mnI x2.2 x3.2)).bind fun x5=>
 some x5
theorem Zy (a:List Int) (b:List Int):∀r,CB a b=some r→aj Tryz.prog 216 0 [SL (cI .u32) a,SL (cI .u32) b] [] (SL (cI .u32) r) []:=
 ak (enc:=fun r=>SL (cI .u32) r) (aP:=fun r=>[]) 10 (.call [] [] (fC a) .no fun x0=>.call [] [] (fC b) .no fun x1=>.op 30002 (.ln (cI .u32) x0) (.br 100000016 (.ret x1) (.op 50002 (.ln (cI .u32) x1) (.br 100000020 (.ret x0) (.call [] [] (BI x0) .no fun x2=>.call [] [] (BI x1) .no fun x3=>.ps 1000001 [.k [5,6,7,8] []] (.lp1 0 (Wx x2 x3 x2.1 x3.1) fun x4=>.call [] [] (VQ x4 (mnI x2.2 x3.2)) .no fun x5=>.ret x5)))))) Tryz.func216 (by kernel_rfl) (by kernel_rfl) (by kernel_rfl)
def vF (a:List Int) (b:List Int):Option (List Int×List Int×Bool):=
 (gJ b).bind fun x0=>
 bif ((x0.length:Nat):Int)==0 then
 some ([],[],false)
 else
 (CB a x0).bind fun x1=>
 (Cm a x1).bind fun x2=>
 (Cm x0 x1).bind fun x3=>
 some (x2.1,x3.1,true)
theorem Un (a:List Int) (b:List Int):∀r,vF a b=some r→aj Tryz.prog 158 0 [SL (cI .u32) a,SL (cI .u32) b] [] (.tup [SL (cI .u32) r.1,SL (cI .u32) r.2.1,B r.2.2]) []:=
 ak (enc:=fun r=>.tup [SL (cI .u32) r.1,SL (cI .u32) r.2.1,B r.2.2]) (aP:=fun r=>[]) 10 (.call [] [] (fC b) .no fun x0=>.op 20002 (.ln (cI .u32) x0) (.br 100000016 (.ps 1000003 [.n 4,.n 5] (.ret ([],[],false))) (.call [] [] (Zy a x0) .no fun x1=>.call [] [] (Ia a x1) .no fun x2=>.call [] [] (Ia x0 x1) .no fun x3=>.ret (x2.1,x3.1,true)))) Tryz.func158 (by kernel_rfl) (by kernel_rfl) (by kernel_rfl)
def kR (n:Whole) (d:List Int):Option Rat:=
 (vF n.Mag d).bind fun x0=>
 bif !x0.2.2 then
 some (Rat.mk false [] [1])
 else
 bif ((x0.1.length:Nat):Int)==0 then
 some (Rat.mk false [] [1])
 else
 some (Rat.mk n.Neg x0.1 x0.2.1)
theorem nP (n:Whole) (d:List Int):∀r,kR n d=some r→aj Tryz.prog 96 0 [AG Whole.D n,SL (cI .u32) d] [] (AG Rat.D r) []:=
 ak (enc:=fun r=>AG Rat.D r) (aP:=fun r=>[]) 10 (.call [] [] (Un n.Mag d) .no fun x0=>.br 20006 (.ps 1000003 [.b 11] (.ret (Rat.mk false [] [1]))) (.op 20008 (.ln (cI .u32) x0.1) (.br 100000022 (.ps 1000003 [.b 11] (.ret (Rat.mk false [] [1]))) (.ret (Rat.mk n.Neg x0.1 x0.2.1))))) Tryz.func96 (by kernel_rfl) (by kernel_rfl) (by kernel_rfl)
def pG (n:Int) (d:Int):Option Rat:=
 bif inK .i64 n then
 (G5 n).bind fun x0=>
 bif inK .u32 d then
 (kR x0 [IntKind.wrap .u32 (d+1)]).bind fun x1=>
 some x1
 else none
 else none
theorem qg (n:Int) (d:Int):∀r,pG n d=some r→aj Tryz.prog 65 0 [NI .i8 n,NI .u8 d] [] (AG Rat.D r) []:=
 ak (enc:=fun r=>AG Rat.D r) (aP:=fun r=>[]) 10 (.call [] [] (SB n) .no fun x0=>.call [] [] (nP x0 [IntKind.wrap .u32 (d+1)]) .no fun x1=>.ret x1) Tryz.func65 (by kernel_rfl) (by kernel_rfl) (by kernel_rfl)
def Fj (g:Graph):Option Bool:=
 bif decide (g.Ins≥1) then
 bif decide (g.Ins≤40) then
 bif decide (g.aG≥1) then
 bif decide (g.aG≤40) then
 bif decide (g.aY≥0) then
 some (decide (g.aY≤400))
 else
 some false
 else
 some false
 else
 some false
 else
 some false
 else
 some false
theorem VW (g:Graph):∀r,Fj g=some r→aj Tryz.prog 106 0 [AG Graph.D g] [] (B r) []:=
 ak (enc:=fun r=>B r) (aP:=fun r=>[]) 10 (.br 10008 (.br 10018 (.br 10028 (.br 10038 (.br 10048 (.ret (decide (g.aY≤400))) (.ret false)) (.ret false)) (.ret false)) (.ret false)) (.ret false)) Tryz.func106 (by kernel_rfl) (by kernel_rfl) (by kernel_rfl)
def LP (g:Graph) (v:Int):Option Bool:=
 bif decide (v≥g.Ins) then
 bif inK .i64 (g.Ins+g.aY) then
 some (decide (v<(g.Ins+g.aY)))
 else none
 else
 some false
theorem Z5 (g:Graph) (v:Int):∀r,LP g v=some r→aj Tryz.prog 168 0 [AG Graph.D g,I v] [] (B r) []:=
 ak (enc:=fun r=>B r) (aP:=fun r=>[]) 10 (.br 10010 (.ret (decide (v<(g.Ins+g.aY)))) (.ret false)) Tryz.func168 (by kernel_rfl) (by kernel_rfl) (by kernel_rfl)
def Ap (g:Graph) (i:Nat):St:=⟨32,0,[(1,.ptr 10 0 0),(6,SL (cI .i64) g.Gone),(7,I ((g.Gone.length:Nat):Int)),(8,I ((i:Nat):Int))],[(10,BOX [I g.Ins,I g.aY,I g.aG,SL Edge.D g.Edges,SL (cI .i64) g.Gone])]⟩
def AP (g:Graph):St:=⟨32,0,[(2,B false)],[]⟩
def Af (g:Graph):St:=⟨32,0,[],[]⟩
def kF (g:Graph) (i:Nat):Option (Nat⊕(Unit⊕Unit)):=
 bif decide (((i:Nat):Int)<((g.Gone.length:Nat):Int)) then
 bif decide (i<g.Gone.length) then
 (LP g (nth g.Gone i)).bind fun x0=>
 bif !x0 then
 some (.inr (.inl ()))
 else
 bif decide (((i:Nat):Int)>0) then
 bif inK .i64 (((i:Nat):Int)-1) then
 bif decide (0≤((i:Nat):Int)-1) then
 bif decide ((((i:Nat):Int)-1).toNat<g.Gone.length) then
 bif decide ((nth g.Gone i)≤(nth g.Gone ((((i:Nat):Int)-1).toNat))) then
 some (.inr (.inl ()))
 else
 bif inK .i64 (((i:Nat):Int)+1) then
 some (.inl (i+1))
 else none
 else none
 else none
 else none
 else
 bif inK .i64 (((i:Nat):Int)+1) then
 some (.inl (i+1))
 else none
 else none
 else
 some (.inr (.inr ()))
theorem Ug (g:Graph):∀σ:Nat,aN Tryz.prog (nav [1,0,1,0,0] (ah Tryz.f107)) (fun (σ:Nat)=>Ap g σ) (fun (y:Unit⊕Unit)=>aH y (fun _=>.ret) (fun _=>(.exit 0))) (fun (y:Unit⊕Unit)=>aH y (fun y=>AP g) (fun y=>Af g)) σ (kF g σ)
 | i=>aF 1010 (.br 100000009 (.op 30002 (.el (cI .i64) g.Gone (.up i)) (.call [] [] (Z5 g (nth g.Gone i)) .no fun x0=>.br 40010 (.ps 1000003 [.k [2] []] (.ret (.inr (.inl ())))) (.br 40016 (.op 40026 (.el (cI .i64) g.Gone .dn) (.br 100000030 (.ps 1000003 [.k [2] []] (.ret (.inr (.inl ())))) (.ps 1000003 [.k [1,6,7,8] [10]] (.ret (.inl (i+1)))))) (.ps 1000003 [.k [1,6,7,8] [10]] (.ret (.inl (i+1))))))) (.ps 1000003 [.k [] []] (.ret (.inr (.inr ()))))) (by kernel_rfl)
def Bf (g:Graph) (i:Nat):Option (Unit⊕Unit):=aK (fun (σ:Nat)=>kF g σ) FU i
theorem TS (g:Graph) (i:Nat):∀y:Unit⊕Unit,Bf g i=some y→Runs Tryz.prog (.loop (nav [1,0,1,0,0] (ah Tryz.f107))) (Ap g i) (aH y (fun _=>.ret) (fun _=>(.exit 0))) ((fun (y:Unit⊕Unit)=>aH y (fun y=>AP g) (fun y=>Af g)) y):=
 aS (head:=fun (σ:Nat)=>Ap g σ) (eo:=fun (y:Unit⊕Unit)=>aH y (fun _=>.ret) (fun _=>(.exit 0))) (so:=fun (y:Unit⊕Unit)=>aH y (fun y=>AP g) (fun y=>Af g)) (Ug g) (fun y h=>by rcases y with y | y<;>cases h) FU i
def IG (g:Graph):Option Bool:=
 (Bf g 0).bind fun y_=>aH y_ (fun x0=>
 some false)
 (fun x1=>
 some true)
theorem X4 (g:Graph):∀r,IG g=some r→aj Tryz.prog 107 0 [AG Graph.D g] [] (B r) []:=
 ak (enc:=fun r=>B r) (aP:=fun r=>[]) 10 (.op 10004 (.ln (cI .i64) g.Gone) (.ps 1000001 [.k [1,6,7,8] [10]] (.lp2 0 (TS g 0) (fun x0=>.ret false) (fun x1=>.ret true)))) Tryz.func107 (by kernel_rfl) (by kernel_rfl) (by kernel_rfl)
def jW (s:List Int) (v:Int) (i:Nat):St:=⟨19,0,[(0,SL (cI .i64) s),(1,I v),(7,I ((s.length:Nat):Int)),(8,I ((i:Nat):Int))],[]⟩
def jU (s:List Int) (v:Int) (i:Nat):St:=⟨19,0,[(4,I ((i:Nat):Int))],[]⟩
def jV (s:List Int) (v:Int):St:=⟨19,0,[],[]⟩
def bK (s:List Int) (v:Int) (i:Nat):Option (Nat⊕(Nat⊕Unit)):=
 bif decide (((i:Nat):Int)<((s.length:Nat):Int)) then
 bif decide (i<s.length) then
 bif v==(nth s i) then
 some (.inr (.inl i))
 else
 bif inK .i64 (((i:Nat):Int)+1) then
 some (.inl (i+1))
 else none
 else none
 else
 some (.inr (.inr ()))
theorem EY (s:List Int) (v:Int):∀σ:Nat,aN Tryz.prog (nav [1,0,1,0,0] (ah Tryz.f136)) (fun (σ:Nat)=>jW s v σ) (fun (y:Nat⊕Unit)=>aH y (fun _=>.ret) (fun _=>(.exit 0))) (fun (y:Nat⊕Unit)=>aH y (fun y=>jU s v y) (fun y=>jV s v)) σ (bK s v σ)
 | i=>aF 1010 (.br 100000009 (.op 40006 (.el (cI .i64) s (.up i)) (.br 100000016 (.ps 1000003 [.k [4] []] (.ret (.inr (.inl i)))) (.ps 1000003 [.k [0,1,7,8] []] (.ret (.inl (i+1)))))) (.ps 1000003 [.k [] []] (.ret (.inr (.inr ()))))) (by kernel_rfl)
def eP (s:List Int) (v:Int) (i:Nat):Option (Nat⊕Unit):=aK (fun (σ:Nat)=>bK s v σ) FU i
theorem EX (s:List Int) (v:Int) (i:Nat):∀y:Nat⊕Unit,eP s v i=some y→Runs Tryz.prog (.loop (nav [1,0,1,0,0] (ah Tryz.f136))) (jW s v i) (aH y (fun _=>.ret) (fun _=>(.exit 0))) ((fun (y:Nat⊕Unit)=>aH y (fun y=>jU s v y) (fun y=>jV s v)) y):=
 aS (head:=fun (σ:Nat)=>jW s v σ) (eo:=fun (y:Nat⊕Unit)=>aH y (fun _=>.ret) (fun _=>(.exit 0))) (so:=fun (y:Nat⊕Unit)=>aH y (fun y=>jU s v y) (fun y=>jV s v)) (EY s v) (fun y h=>by rcases y with y | y<;>cases h) FU i
def iP (s:List Int) (v:Int):Option Int:=
 (eP s v 0).bind fun y_=>aH y_ (fun x0=>
 some ((x0:Nat):Int))
 (fun x1=>
 some (-1))
theorem GX (s:List Int) (v:Int):∀r,iP s v=some r→aj Tryz.prog 136 0 [SL (cI .i64) s,I v] [] (I r) []:=
 ak (enc:=fun r=>I r) (aP:=fun r=>[]) 10 (.op 10002 (.ln (cI .i64) s) (.ps 1000001 [.k [0,1,7,8] []] (.lp2 0 (EX s v 0) (fun x0=>.ret ((x0:Nat):Int)) (fun x1=>.ret (-1))))) Tryz.func136 (by kernel_rfl) (by kernel_rfl) (by kernel_rfl)
def dJ (s:List Int) (v:Int):Option Bool:=
 (iP s v).bind fun x0=>
 some (decide (x0≥0))
theorem gB (s:List Int) (v:Int):∀r,dJ s v=some r→aj Tryz.prog 70 0 [SL (cI .i64) s,I v] [] (B r) []:=
 ak (enc:=fun r=>B r) (aP:=fun r=>[]) 10 (.call [] [] (GX s v) .no fun x0=>.ret (decide (x0≥0))) Tryz.func70 (by kernel_rfl) (by kernel_rfl) (by kernel_rfl)
def uK (a:Edge) (b:Edge):Option Int:=
 (cmp_Compare_int a.From b.From).bind fun x0=>
 (cmp_Compare_int a.To b.To).bind fun x1=>
 (uo [x0,x1]).bind fun x2=>
 some x2
theorem J5 (a:Edge) (b:Edge):∀r,uK a b=some r→aj Tryz.prog 103 0 [AG Edge.D a,AG Edge.D b] [] (I r) []:=
 ak (enc:=fun r=>I r) (aP:=fun r=>[]) 10 (.call [] [] (jH a.From b.From) .no fun x0=>.call [] [] (jH a.To b.To) .no fun x1=>.call [] [] (MX [x0,x1]) (.yes fun _=>⟨rfl,trivial⟩) fun x2=>.ret x2) Tryz.func103 (by kernel_rfl) (by kernel_rfl) (by kernel_rfl)
def xJ (tA:Graph) (i:Nat):St:=⟨95,0,[(1,.ptr 10 0 0),(14,SL Edge.D tA.Edges),(15,I ((tA.Edges.length:Nat):Int)),(16,I ((i:Nat):Int))],[(10,BOX [I tA.Ins,I tA.aY,I tA.aG,SL Edge.D tA.Edges,SL (cI .i64) tA.Gone])]⟩
def yI (tA:Graph):St:=⟨95,0,[(2,B false)],[]⟩
def yj (tA:Graph):St:=⟨95,0,[],[]⟩
def bG (tA:Graph) (i:Nat):Option (Nat⊕(Unit⊕Unit)):=
 bif decide (((i:Nat):Int)<((tA.Edges.length:Nat):Int)) then
 bif decide (i<tA.Edges.length) then
 bif decide (((nth tA.Edges i).From)<0) then
 some (.inr (.inl ()))
 else
 bif inK .i64 (tA.Ins+tA.aY) then
 bif decide (((nth tA.Edges i).From)≥(tA.Ins+tA.aY)) then
 some (.inr (.inl ()))
 else
 bif decide (((nth tA.Edges i).To)<tA.Ins) then
 some (.inr (.inl ()))
 else
 bif inK .i64 (tA.Ins+tA.aY) then
 bif inK .i64 ((tA.Ins+tA.aY)+tA.aG) then
 bif decide (((nth tA.Edges i).To)≥((tA.Ins+tA.aY)+tA.aG)) then
 some (.inr (.inl ()))
 else
 bif decide (((nth tA.Edges i).From)≥((nth tA.Edges i).To)) then
 some (.inr (.inl ()))
 else
 (uz ((nth tA.Edges i).W)).bind fun x2=>
 bif !x2 then
 some (.inr (.inl ()))
 else
 bif decide (((i:Nat):Int)>0) then
 bif inK .i64 (((i:Nat):Int)-1) then
 bif decide (0≤((i:Nat):Int)-1) then
 bif decide ((((i:Nat):Int)-1).toNat<tA.Edges.length) then
 (uK (nth tA.Edges ((((i:Nat):Int)-1).toNat)) (nth tA.Edges i)).bind fun x3=>
 bif decide (x3≥0) then
 some (.inr (.inl ()))
 else
 (dJ tA.Gone ((nth tA.Edges i).From)).bind fun x4=>
 bif x4 then
 some (.inr (.inl ()))
 else
 (dJ tA.Gone ((nth tA.Edges i).To)).bind fun x5=>
 bif x5 then
 some (.inr (.inl ()))
 else
 bif inK .i64 (((i:Nat):Int)+1) then
 some (.inl (i+1))
 else none
 else none
 else none
 else none
 else
 (dJ tA.Gone ((nth tA.Edges i).From)).bind fun x3=>
 bif x3 then
 some (.inr (.inl ()))
 else
 (dJ tA.Gone ((nth tA.Edges i).To)).bind fun x4=>
 bif x4 then
 some (.inr (.inl ()))
 else
 bif inK .i64 (((i:Nat):Int)+1) then
 some (.inl (i+1))
 else none
 else none
 else none
 else none
 else none
 else
 some (.inr (.inr ()))
theorem RP (tA:Graph):∀σ:Nat,aN Tryz.prog (nav [1,1,0,1,0,0] (ah Tryz.f45)) (fun (σ:Nat)=>xJ tA σ) (fun (y:Unit⊕Unit)=>aH y (fun _=>.ret) (fun _=>(.exit 0))) (fun (y:Unit⊕Unit)=>aH y (fun y=>yI tA) (fun y=>yj tA)) σ (bG tA σ)
 | i=>aF 1010 (.br 100000017 (.op 50002 (.el Edge.D tA.Edges (.up i)) (.br 60008 (.ps 1000003 [.k [2] []] (.ret (.inr (.inl ())))) (.br 60028 (.ps 1000003 [.k [2] []] (.ret (.inr (.inl ())))) (.br 60042 (.ps 1000003 [.k [2] []] (.ret (.inr (.inl ())))) (.br 60068 (.ps 1000003 [.k [2] []] (.ret (.inr (.inl ())))) (.br 100000060 (.ps 1000003 [.k [2] []] (.ret (.inr (.inl ())))) (.call [] [] (La ((nth tA.Edges i).W)) .no fun x2=>.br 80010 (.ps 1000003 [.k [2] []] (.ret (.inr (.inl ())))) (.br 80016 (.op 80024 (.el Edge.D tA.Edges .dn) (.call [] [] (J5 (nth tA.Edges ((((i:Nat):Int)-1).toNat)) (nth tA.Edges i)) .no fun x3=>.br 80040 (.ps 1000003 [.k [2] []] (.ret (.inr (.inl ())))) (.call [] [] (gB tA.Gone ((nth tA.Edges i).From)) .no fun x4=>.br 80054 (.ps 1000003 [.k [2] []] (.ret (.inr (.inl ())))) (.call [] [] (gB tA.Gone ((nth tA.Edges i).To)) .no fun x5=>.br 100000093 (.ps 1000003 [.k [2] []] (.ret (.inr (.inl ())))) (.ps 1000003 [.k [1,14,15,16] [10]] (.ret (.inl (i+1)))))))) (.call [] [] (gB tA.Gone ((nth tA.Edges i).From)) .no fun x3=>.br 80054 (.ps 1000003 [.k [2] []] (.ret (.inr (.inl ())))) (.call [] [] (gB tA.Gone ((nth tA.Edges i).To)) .no fun x4=>.br 100000093 (.ps 1000003 [.k [2] []] (.ret (.inr (.inl ())))) (.ps 1000003 [.k [1,14,15,16] [10]] (.ret (.inl (i+1)))))))))))))) (.ps 1000003 [.k [] []] (.ret (.inr (.inr ()))))) (by kernel_rfl)
def yK (tA:Graph) (i:Nat):Option (Unit⊕Unit):=aK (fun (σ:Nat)=>bG tA σ) FU i
theorem RN (tA:Graph) (i:Nat):∀y:Unit⊕Unit,yK tA i=some y→Runs Tryz.prog (.loop (nav [1,1,0,1,0,0] (ah Tryz.f45))) (xJ tA i) (aH y (fun _=>.ret) (fun _=>(.exit 0))) ((fun (y:Unit⊕Unit)=>aH y (fun y=>yI tA) (fun y=>yj tA)) y):=
 aS (head:=fun (σ:Nat)=>xJ tA σ) (eo:=fun (y:Unit⊕Unit)=>aH y (fun _=>.ret) (fun _=>(.exit 0))) (so:=fun (y:Unit⊕Unit)=>aH y (fun y=>yI tA) (fun y=>yj tA)) (RP tA) (fun y h=>by rcases y with y | y<;>cases h) FU i
def kM (tA:Graph):Option Bool:=
 (Fj tA).bind fun x0=>
 bif !x0 then
 some false
 else
 (IG tA).bind fun x1=>
 bif !x1 then
 some false
 else
 (yK tA 0).bind fun y_=>aH y_ (fun x2=>
 some false)
 (fun x3=>
 some true)
theorem qo (tA:Graph):∀r,kM tA=some r→aj Tryz.prog 45 0 [AG Graph.D tA] [] (B r) []:=
 ak (enc:=fun r=>B r) (aP:=fun r=>[]) 10 (.call [] [] (VW tA) .no fun x0=>.br 10008 (.ret false) (.call [] [] (X4 tA) .no fun x1=>.br 100000012 (.ret false) (.op 30004 (.ln Edge.D tA.Edges) (.ps 1000001 [.k [1,14,15,16] [10]] (.lp2 0 (RN tA 0) (fun x2=>.ret false) (fun x3=>.ret true)))))) Tryz.func45 (by kernel_rfl) (by kernel_rfl) (by kernel_rfl)
end Go.Ab.M
