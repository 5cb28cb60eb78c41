import Derived.Test.YtjboagogechleaaGreatTD
namespace Go.Ab.M
open Go.Proofs
set_option linter.unusedVariables false
set_option maxRecDepth 100000
structure FY where
 Rat:Rat
 deriving DecidableEq,Inhabited
abbrev FY.D (x:FY):List D:=Rat.D x.Rat
structure Af where
 halves:FY
 deriving DecidableEq,Inhabited
abbrev Af.D (x:Af):List D:=FY.D x.halves
def vg (a:List Int) (b:List Int):Option (List Int×List Int×Bool):=
 (nG b).bind fun x0=>
 bif x0==0 then
 some ([],[],false)
 else
 (mJ a b).bind fun x1=>
 (qF a x1).bind fun x2=>
 (qF b x1).bind fun x3=>
 some (x2.1,x3.1,true)
theorem MX (a:List Int) (b:List Int):∀r,vg a b=some r→au Tryz.prog 164 0 [SL (cI .u32) a,SL (cI .u32) b] [] (.tup [SL (cI .u32) r.1,SL (cI .u32) r.2.1,B r.2.2]) []:=
 ay (enc:=fun r=>.tup [SL (cI .u32) r.1,SL (cI .u32) r.2.1,B r.2.2]) (aU:=fun r=>[]) 10 (.call [] [] (Gs b) .no fun x0=>.br 100000010 (.ps 1000003 [.n 4,.n 5] (.ret ([],[],false))) (.call [] [] (Jp a b) .no fun x1=>.call [] [] (EL a x1) .no fun x2=>.call [] [] (EL b x1) .no fun x3=>.ret (x2.1,x3.1,true))) Tryz.func164 (by kernel_rfl) (by kernel_rfl) (by kernel_rfl)
def LW (a:Int) (b:Int) (c:Int):Option (Int×Int):=
 (kR [a,b,c]).bind fun x0=>
 (uK x0).bind fun x1=>
 some (x1.2,x1.1)
theorem XO (a:Int) (b:Int) (c:Int):∀r,LW a b c=some r→au Tryz.prog 218 0 [NI .u32 a,NI .u32 b,NI .u32 c] [] (.tup [NI .u32 r.1,NI .u32 r.2]) []:=
 ay (enc:=fun r=>.tup [NI .u32 r.1,NI .u32 r.2]) (aU:=fun r=>[]) 10 (.call [] [] (yB [a,b,c]) (.yes fun _=>⟨rfl,trivial⟩) fun x0=>.call [] [] (Du x0) .no fun x1=>.ret (x1.2,x1.1)) Tryz.func218 (by kernel_rfl) (by kernel_rfl) (by kernel_rfl)
def FC (a:List Int) (b:List Int) (i:Nat) (out:List Int):St:=⟨43,0,[(0,SL (cI .u32) a),(1,SL (cI .u32) b),(5,I (mxI ((a.length:Nat):Int) ((b.length:Nat):Int))),(6,.msl 10 0 none (some (((mxI ((a.length:Nat):Int) ((b.length:Nat):Int))+1).toNat))),(16,I (mxI ((a.length:Nat):Int) ((b.length:Nat):Int))),(17,I ((i:Nat):Int))],[(10,ROW 1 (cI .u32) out 0)]⟩
def EK (a:List Int) (b:List Int) (out:List Int):St:=⟨43,0,[(6,.msl 10 0 none (some (((mxI ((a.length:Nat):Int) ((b.length:Nat):Int))+1).toNat)))],[(10,ROW 1 (cI .u32) out 0)]⟩
def rY (a:List Int) (b:List Int) (i:Nat) (out:List Int):Option ((Nat×List Int)⊕(List Int)):=
 bif decide (((i:Nat):Int)<(mxI ((a.length:Nat):Int) ((b.length:Nat):Int))) then
 (JG a ((i:Nat):Int)).bind fun x0=>
 (JG b ((i:Nat):Int)).bind fun x1=>
 bif decide (0≤mxI ((a.length:Nat):Int) ((b.length:Nat):Int)) then
 bif decide ((mxI ((a.length:Nat):Int) ((b.length:Nat):Int)).toNat<out.length) then
 bif decide ((mxI ((a.length:Nat):Int) ((b.length:Nat):Int)).toNat<out.length) then
 (LW x0 x1 (nth out ((mxI ((a.length:Nat):Int) ((b.length:Nat):Int)).toNat))).bind fun x2=>
 bif decide (i<out.length) then
 bif decide (i<out.length) then
 bif decide (0≤mxI ((a.length:Nat):Int) ((b.length:Nat):Int)) then
 bif decide ((mxI ((a.length:Nat):Int) ((b.length:Nat):Int)).toNat<(out.set i x2.1).length) then
 bif decide ((mxI ((a.length:Nat):Int) ((b.length:Nat):Int)).toNat<(out.set i x2.1).length) then
 bif inK .i64 (((i:Nat):Int)+1) then
 some (.inl (i+1,(out.set i x2.1).set ((mxI ((a.length:Nat):Int) ((b.length:Nat):Int)).toNat) x2.2))
 else none
 else none
 else none
 else none
 else none
 else none
 else none
 else none
 else none
 else
 some (.inr out)
theorem Wv (a:List Int) (b:List Int):∀σ:Nat×List Int,aN Tryz.prog (nav [1,1,1,0,1,0,0] (ah Tryz.f178)) (fun (σ:Nat×List Int)=>FC a b σ.1 σ.2) (fun (_:List Int)=>(.exit 0)) (fun (y:List Int)=>EK a b y) σ (rY a b σ.1 σ.2)
 | (i,out)=>aH 1010 (.br 100000018 (.call [] [] (MN a ((i:Nat):Int)) .no fun x0=>.call [] [] (MN b ((i:Nat):Int)) .no fun x1=>.op 60024 (.el (cI .u32) out .dn) (.op 60026 (.ld (cI .u32) out) (.call [] [] (XO x0 x1 (nth out ((mxI ((a.length:Nat):Int) ((b.length:Nat):Int)).toNat))) .no fun x2=>.op 60036 (.el (cI .u32) out (.up i)) (.op 60038 (.st (cI .u32) out x2.1) (.op 60040 (.el (cI .u32) (out.set i x2.1) .dn) (.op 60042 (.st (cI .u32) (out.set i x2.1) x2.2) (.ps 1000003 [.k [0,1,5,6,16,17] [10]] (.ret (.inl (i+1,(out.set i x2.1).set ((mxI ((a.length:Nat):Int) ((b.length:Nat):Int)).toNat) x2.2)))))))))) (.ps 1000003 [.k [6] [10]] (.ret (.inr out)))) (by kernel_rfl)
def H7 (a:List Int) (b:List Int) (i:Nat) (out:List Int):Option (List Int):=aK (fun (σ:Nat×List Int)=>rY a b σ.1 σ.2) FU (i,out)
theorem V7 (a:List Int) (b:List Int) (i:Nat) (out:List Int):∀y:List Int,H7 a b i out=some y→Runs Tryz.prog (.loop (nav [1,1,1,0,1,0,0] (ah Tryz.f178))) (FC a b i out) ((.exit 0)) ((fun (y:List Int)=>EK a b y) y):=
 aX (head:=fun (σ:Nat×List Int)=>FC a b σ.1 σ.2) (eo:=fun (_:List Int)=>(.exit 0)) (so:=fun (y:List Int)=>EK a b y) (Wv a b) (fun _ h=>by cases h) FU (i,out)
def O9 (a:List Int) (b:List Int):Option (List Int):=
 bif inK .i64 ((mxI ((a.length:Nat):Int) ((b.length:Nat):Int))+1) then
 bif decide (0≤(mxI ((a.length:Nat):Int) ((b.length:Nat):Int))+1) then
 bif decide (((mxI ((a.length:Nat):Int) ((b.length:Nat):Int))+1).toNat≤2147483648) then
 (H7 a b 0 (List.replicate (((mxI ((a.length:Nat):Int) ((b.length:Nat):Int))+1).toNat) 0)).bind fun x0=>
 (fQ x0).bind fun x1=>
 some x1
 else none
 else none
 else none
theorem Yz (a:List Int) (b:List Int):∀r,O9 a b=some r→au Tryz.prog 178 0 [SL (cI .u32) a,SL (cI .u32) b] [] (SL (cI .u32) r) []:=
 ay (enc:=fun r=>SL (cI .u32) r) (aU:=fun r=>[]) 10 (.op 10002 (.ln (cI .u32) a) (.op 10006 (.ln (cI .u32) b) (.op 20004 (.mk (cI .u32) 0 .dn) (.ps 1000001 [.k [0,1,5,6,16,17] [10]] (.lp1 0 (V7 a b 0 (List.replicate (((mxI ((a.length:Nat):Int) ((b.length:Nat):Int))+1).toNat) 0)) fun x0=>.call [] [] (fG x0) .no fun x1=>.ret x1))))) Tryz.func178 (by kernel_rfl) (by kernel_rfl) (by kernel_rfl)
def lH (neg:Bool) (mag:List Int):Option Whole:=
 (fQ mag).bind fun x0=>
 bif neg then
 some (Whole.mk (decide (((x0.length:Nat):Int)>0)) x0)
 else
 some (Whole.mk false x0)
theorem oZ (neg:Bool) (mag:List Int):∀r,lH neg mag=some r→au Tryz.prog 169 0 [B neg,SL (cI .u32) mag] [] (AG Whole.D r) []:=
 ay (enc:=fun r=>AG Whole.D r) (aU:=fun r=>[]) 10 (.call [] [] (fG mag) .no fun x0=>.br 20004 (.op 20006 (.ln (cI .u32) x0) (.ret (Whole.mk (decide (((x0.length:Nat):Int)>0)) x0))) (.ret (Whole.mk false x0))) Tryz.func169 (by kernel_rfl) (by kernel_rfl) (by kernel_rfl)
def Gm (a:Whole) (b:Whole):Option Whole:=
 (O9 a.Mag b.Mag).bind fun x0=>
 (lH a.Neg x0).bind fun x1=>
 some x1
theorem Q9 (a:Whole) (b:Whole):∀r,Gm a b=some r→au Tryz.prog 168 0 [AG Whole.D a,AG Whole.D b] [] (AG Whole.D r) []:=
 ay (enc:=fun r=>AG Whole.D r) (aU:=fun r=>[]) 10 (.call [] [] (Yz a.Mag b.Mag) .no fun x0=>.call [] [] (oZ a.Neg x0) .no fun x1=>.ret x1) Tryz.func168 (by kernel_rfl) (by kernel_rfl) (by kernel_rfl)
def yS (a:Whole) (b:Whole):Option Whole:=
 (Ii a.Mag b.Mag).bind fun x0=>
 bif x0.2 then
 (lH a.Neg x0.1).bind fun x1=>
 some x1
 else
 (Ii b.Mag a.Mag).bind fun x1=>
 (lH b.Neg x1.1).bind fun x2=>
 some x2
theorem OQ (a:Whole) (b:Whole):∀r,yS a b=some r→au Tryz.prog 167 0 [AG Whole.D a,AG Whole.D b] [] (AG Whole.D r) []:=
 ay (enc:=fun r=>AG Whole.D r) (aU:=fun r=>[]) 10 (.call [] [] (JK a.Mag b.Mag) .no fun x0=>.br 100000017 (.call [] [] (oZ a.Neg x0.1) .no fun x1=>.ret x1) (.call [] [] (JK b.Mag a.Mag) .no fun x1=>.call [] [] (oZ b.Neg x1.1) .no fun x2=>.ret x2)) Tryz.func167 (by kernel_rfl) (by kernel_rfl) (by kernel_rfl)
def zo (a:Whole) (b:Whole):Option Whole:=
 bif a.Neg==b.Neg then
 (Gm a b).bind fun x0=>
 some x0
 else
 (yS a b).bind fun x0=>
 some x0
theorem Vj (a:Whole) (b:Whole):∀r,zo a b=some r→au Tryz.prog 120 0 [AG Whole.D a,AG Whole.D b] [] (AG Whole.D r) []:=
 ay (enc:=fun r=>AG Whole.D r) (aU:=fun r=>[]) 10 (.br 100000011 (.call [] [] (Q9 a b) .no fun x0=>.ret x0) (.call [] [] (OQ a b) .no fun x0=>.ret x0)) Tryz.func120 (by kernel_rfl) (by kernel_rfl) (by kernel_rfl)
def DX (a:Whole) (b:Whole):Option Whole:=
 (lZ a.Mag b.Mag).bind fun x0=>
 (lH (!(a.Neg==b.Neg)) x0).bind fun x1=>
 some x1
theorem KN (a:Whole) (b:Whole):∀r,DX a b=some r→au Tryz.prog 121 0 [AG Whole.D a,AG Whole.D b] [] (AG Whole.D r) []:=
 ay (enc:=fun r=>AG Whole.D r) (aU:=fun r=>[]) 10 (.call [] [] (og a.Mag b.Mag) .no fun x0=>.call [] [] (oZ (!(a.Neg==b.Neg)) x0) .no fun x1=>.ret x1) Tryz.func121 (by kernel_rfl) (by kernel_rfl) (by kernel_rfl)
def nT (neg:Bool) (n:List Int) (d:List Int):Option Rat:=
 (vg n d).bind fun x0=>
 bif !x0.2.2 then
 (Ai 1).bind fun x1=>
 some (Rat.mk false [] x1)
 else
 bif ((x0.1.length:Nat):Int)==0 then
 (Ai 1).bind fun x1=>
 some (Rat.mk false [] x1)
 else
 some (Rat.mk neg x0.1 x0.2.1)
theorem wX (neg:Bool) (n:List Int) (d:List Int):∀r,nT neg n d=some r→au Tryz.prog 115 0 [B neg,SL (cI .u32) n,SL (cI .u32) d] [] (AG Rat.D r) []:=
 ay (enc:=fun r=>AG Rat.D r) (aU:=fun r=>[]) 10 (.call [] [] (MX n d) .no fun x0=>.br 20006 (.call [] [] (tN 1) .no fun x1=>.ps 1000003 [.b 10] (.ret (Rat.mk false [] x1))) (.op 20008 (.ln (cI .u32) x0.1) (.br 100000023 (.call [] [] (tN 1) .no fun x1=>.ps 1000003 [.b 10] (.ret (Rat.mk false [] x1))) (.ret (Rat.mk neg x0.1 x0.2.1))))) Tryz.func115 (by kernel_rfl) (by kernel_rfl) (by kernel_rfl)
def II (a:Rat):Option Rat:=
 (nT a.Neg a.Num a.Den).bind fun x0=>
 some x0
theorem U1 (a:Rat):∀r,II a=some r→au Tryz.prog 81 0 [AG Rat.D a] [] (AG Rat.D r) []:=
 ay (enc:=fun r=>AG Rat.D r) (aU:=fun r=>[]) 10 (.call [] [] (wX a.Neg a.Num a.Den) .no fun x0=>.ret x0) Tryz.func81 (by kernel_rfl) (by kernel_rfl) (by kernel_rfl)
def GV (a:Rat):Option Af:=
 (II a).bind fun x0=>
 some (Af.mk (FY.mk x0))
theorem Oi (a:Rat):∀r,GV a=some r→au Tryz.prog 119 0 [AG Rat.D a] [] (AG Af.D r) []:=
 ay (enc:=fun r=>AG Af.D r) (aU:=fun r=>[]) 10 (.call [] [] (U1 a) .no fun x0=>.ret (Af.mk (FY.mk x0))) Tryz.func119 (by kernel_rfl) (by kernel_rfl) (by kernel_rfl)
def lG (h:FY):Option Whole:=
 some (Whole.mk h.Rat.Neg h.Rat.Num)
theorem sW (h:FY):∀r,lG h=some r→au Tryz.prog 122 0 [AG FY.D h] [] (AG Whole.D r) []:=
 ay (enc:=fun r=>AG Whole.D r) (aU:=fun r=>[]) 10 (.ret (Whole.mk h.Rat.Neg h.Rat.Num)) Tryz.func122 (by kernel_rfl) (by kernel_rfl) (by kernel_rfl)
def lS (h:FY):Option Whole:=
 some (Whole.mk false h.Rat.Den)
theorem sU (h:FY):∀r,lS h=some r→au Tryz.prog 123 0 [AG FY.D h] [] (AG Whole.D r) []:=
 ay (enc:=fun r=>AG Whole.D r) (aU:=fun r=>[]) 10 (.ret (Whole.mk false h.Rat.Den)) Tryz.func123 (by kernel_rfl) (by kernel_rfl) (by kernel_rfl)
def Iz (a:Rat) (b:Rat):Option Rat:=
 (GV a).bind fun x0=>
 (GV b).bind fun x1=>
 (lG x0.halves).bind fun x2=>
 (lS x1.halves).bind fun x3=>
 (DX x2 x3).bind fun x4=>
 (lG x1.halves).bind fun x5=>
 (lS x0.halves).bind fun x6=>
 (DX x5 x6).bind fun x7=>
 (zo x4 x7).bind fun x8=>
 (lZ x0.halves.Rat.Den x1.halves.Rat.Den).bind fun x9=>
 (nT x8.Neg x8.Mag x9).bind fun x10=>
 some x10
theorem Vr (a:Rat) (b:Rat):∀r,Iz a b=some r→au Tryz.prog 59 0 [AG Rat.D a,AG Rat.D b] [] (AG Rat.D r) []:=
 ay (enc:=fun r=>AG Rat.D r) (aU:=fun r=>[]) 10 (.call [] [] (Oi a) .no fun x0=>.call [] [] (Oi b) .no fun x1=>.call [] [] (sW x0.halves) .no fun x2=>.call [] [] (sU x1.halves) .no fun x3=>.call [] [] (KN x2 x3) .no fun x4=>.call [] [] (sW x1.halves) .no fun x5=>.call [] [] (sU x0.halves) .no fun x6=>.call [] [] (KN x5 x6) .no fun x7=>.call [] [] (Vj x4 x7) .no fun x8=>.call [] [] (og x0.halves.Rat.Den x1.halves.Rat.Den) .no fun x9=>.call [] [] (wX x8.Neg x8.Mag x9) .no fun x10=>.ret x10) Tryz.func59 (by kernel_rfl) (by kernel_rfl) (by kernel_rfl)
def D8 (a:Rat) (b:Rat):Option Rat:=
 (lZ a.Num b.Num).bind fun x0=>
 (lZ a.Den b.Den).bind fun x1=>
 (nT (!(a.Neg==b.Neg)) x0 x1).bind fun x2=>
 some x2
theorem U0 (a:Rat) (b:Rat):∀r,D8 a b=some r→au Tryz.prog 56 0 [AG Rat.D a,AG Rat.D b] [] (AG Rat.D r) []:=
 ay (enc:=fun r=>AG Rat.D r) (aU:=fun r=>[]) 10 (.call [] [] (og a.Num b.Num) .no fun x0=>.call [] [] (og a.Den b.Den) .no fun x1=>.call [] [] (wX (!(a.Neg==b.Neg)) x0 x1) .no fun x2=>.ret x2) Tryz.func56 (by kernel_rfl) (by kernel_rfl) (by kernel_rfl)
end Go.Ab.M
