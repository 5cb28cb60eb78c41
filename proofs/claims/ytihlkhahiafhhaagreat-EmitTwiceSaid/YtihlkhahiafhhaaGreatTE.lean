import Derived.Test.YtihlkhahiafhhaaGreatTD
namespace Go.Ab.M
open Go.Proofs
set_option linter.unusedVariables false
set_option linter.defProp false
set_option maxRecDepth 100000
structure JJ where
 Rat:Rat
 deriving DecidableEq,Inhabited
abbrev JJ.D (x:JJ):List D:=Rat.D x.Rat
structure GY where
 halves:JJ
 deriving DecidableEq,Inhabited
abbrev GY.D (x:GY):List D:=JJ.D x.halves
def Ak (a:List Int) (b:List Int):Option (List Int×List Int×Bool):=(nU b).bind fun x0=>bif x0==0 then some ([],[],false) else (uD a b).bind fun x1=>(yw a x1).bind fun x2=>(yw b x1).bind fun x3=>some (x2.1,x3.1,true)
theorem Uu (a:List Int) (b:List Int):∀r,Ak a b=some r->aj Tryz.prog 114 0 [SL K2 a,SL K2 b] [] (.tup [SL K2 r.1,SL K2 r.2.1,B r.2.2]) []:=
 ak 10 (.call [] [] (yC b) .no fun x0=>.br 100000010 (.ps 1000003 [.n 4,.n 5] (.ret ([],[],false))) (.call [] [] (OE a b) .no fun x1=>.call [] [] (Iz a x1) .no fun x2=>.call [] [] (Iz b x1) .no fun x3=>.ret (x2.1,x3.1,true))) Tryz.func114
def QI (a:Int) (b:Int) (c:Int):Option (Int×Int):=(pG [a,b,c]).bind fun x0=>(zY x0).bind fun x1=>some (x1.2,x1.1)
theorem agu (a:Int) (b:Int) (c:Int):∀r,QI a b c=some r->aj Tryz.prog 170 0 [NI .u32 a,NI .u32 b,NI .u32 c] [] (.tup [NI .u32 r.1,NI .u32 r.2]) []:=
 ak 10 (.call [] [] (CO [a,b,c]) (.yes fun _=>⟨rfl,trivial⟩) fun x0=>.call [] [] (FZ x0) .no fun x1=>.ret (x1.2,x1.1)) Tryz.func170
def aeD (a:List Int) (b:List Int) (i:Nat) (out:List Int):St:=⟨43,0,[(0,SL K2 a),(1,SL K2 b),(5,I (mxI (a.length:Int) (b.length:Int))),(6,.msl 10 0 none (some (((mxI (a.length:Int) (b.length:Int))+1).toNat))),(16,I (mxI (a.length:Int) (b.length:Int))),(17,I (i:Int))],[(10,ROW 1 K2 out 0)]⟩
def aep (a:List Int) (b:List Int) (out:List Int):St:=⟨43,0,[(6,.msl 10 0 none (some (((mxI (a.length:Int) (b.length:Int))+1).toNat)))],[(10,ROW 1 K2 out 0)]⟩
def yM (a:List Int) (b:List Int) (i:Nat) (out:List Int):Option ((Nat×List Int)⊕(List Int)):=let y0:=mxI (a.length:Int) (b.length:Int);let y1:=0<=mxI (a.length:Int) (b.length:Int);let y2:=y0.toNat<out.length;let y3:=i<out.length;bif decide ((i:Int)<y0) then (O7 a (i:Int)).bind fun x0=>(O7 b (i:Int)).bind fun x1=>G1 y1<|G1 y2<|G1 y2<|(QI x0 x1 (nth out (y0.toNat))).bind fun x2=>G1 y3<|G1 y3<|G1 y1<|G1 (y0.toNat<(out.set i x2.1).length)<|G1 (y0.toNat<(out.set i x2.1).length)<|G2 ((i:Int)+1)<|some (.inl (i+1,(out.set i x2.1).set (y0.toNat) x2.2)) else some (.inr out)
theorem aed (a:List Int) (b:List Int):∀σ:Nat×List Int,aO Tryz.prog (nav [1,1,1,0,1,0,0] (aK Tryz.f113)) (fun (σ:Nat×List Int)=>aeD a b σ.1 σ.2) (fun (_:List Int)=>(.exit 0)) (fun (y:List Int)=>aep a b y) σ (yM a b σ.1 σ.2)
 | (i,out)=>let y0:=(mxI (a.length:Int) (b.length:Int)).toNat;aI 1010 (.br 100000018 (.call [] [] (Vu a (i:Int)) .no fun x0=>.call [] [] (Vu b (i:Int)) .no fun x1=>.op 60024 (.el K2 out .dn) (.op 60026 (.ld K2 out) (.call [] [] (agu x0 x1 (nth out y0)) .no fun x2=>.op 60036 (.el K2 out (.up i)) (.op 60038 (.st K2 out x2.1) (.op 60040 (.el K2 (out.set i x2.1) .dn) (.op 60042 (.st K2 (out.set i x2.1) x2.2) (G3 [0,1,5,6,16,17] [10] (.ret (.inl (i+1,(out.set i x2.1).set y0 x2.2)))))))))) (G3 [6] [10] (.ret (.inr out))))
def U9 (a:List Int) (b:List Int) (i:Nat) (out:List Int):Option (List Int):=aQ (fun (σ:Nat×List Int)=>yM a b σ.1 σ.2) FU (i,out)
def aeA (a:List Int) (b:List Int) (i:Nat) (out:List Int):=
 aX (aed a b) (fun _ h=>by cases h) FU (i,out)
def QF (a:List Int) (b:List Int):Option (List Int):=G2 ((mxI (a.length:Int) (b.length:Int))+1)<|G1 (0<=(mxI (a.length:Int) (b.length:Int))+1)<|G1 (((mxI (a.length:Int) (b.length:Int))+1).toNat<=2147483648)<|(U9 a b 0 (List.replicate (((mxI (a.length:Int) (b.length:Int))+1).toNat) 0)).bind fun x0=>(jv x0).bind fun x1=>some x1
theorem ZC (a:List Int) (b:List Int):∀r,QF a b=some r->aj Tryz.prog 113 0 [SL K2 a,SL K2 b] [] (SL K2 r) []:=
 ak 10 (.op 10002 (.ln K2 a) (.op 10006 (.ln K2 b) (.op 20004 (.mk K2 0 .dn) (G4 [0,1,5,6,16,17] [10] (.lp1 0 (aeA a b 0 (List.replicate (((mxI (a.length:Int) (b.length:Int))+1).toNat) 0)) fun x0=>.call [] [] (jm x0) .no fun x1=>.ret x1))))) Tryz.func113
def lF (neg:Bool) (mag:List Int):Option Whole:=(jv mag).bind fun x0=>bif neg then some (Whole.mk (decide ((x0.length:Int)>0)) x0) else some (Whole.mk false x0)
theorem mV (neg:Bool) (mag:List Int):∀r,lF neg mag=some r->aj Tryz.prog 112 0 [B neg,SL K2 mag] [] (AG Whole.D r) []:=
 ak 10 (.call [] [] (jm mag) .no fun x0=>.br 20004 (.op 20006 (.ln K2 x0) (.ret (Whole.mk (decide ((x0.length:Int)>0)) x0))) (.ret (Whole.mk false x0))) Tryz.func112
def Kw (n:Int):Option Whole:=bif decide (n<0) then G2 (n+1)<|G2 (0-(n+1))<|(xH (IntKind.wrap .u64 (0-(n+1)))).bind fun x0=>(xH 1).bind fun x1=>(QF x0 x1).bind fun x2=>(lF true x2).bind fun x3=>some x3 else (xH (IntKind.wrap .u64 n)).bind fun x0=>(lF false x0).bind fun x1=>some x1
theorem afg (n:Int):∀r,Kw n=some r->aj Tryz.prog 65 0 [I n] [] (AG Whole.D r) []:=
 ak 10 (.br 100000004 (.op 20006 .wr (.call [] [] (pq (IntKind.wrap .u64 (0-(n+1)))) .no fun x0=>.call [] [] (pq 1) .no fun x1=>.call [] [] (ZC x0 x1) .no fun x2=>.call [] [] (mV true x2) .no fun x3=>.ret x3)) (.op 30002 .wr (.call [] [] (pq (IntKind.wrap .u64 n)) .no fun x0=>.call [] [] (mV false x0) .no fun x1=>.ret x1))) Tryz.func65
def LU (a:Whole) (b:Whole):Option Whole:=(QF a.Mag b.Mag).bind fun x0=>(lF a.Neg x0).bind fun x1=>some x1
theorem Zp (a:Whole) (b:Whole):∀r,LU a b=some r->aj Tryz.prog 240 0 [AG Whole.D a,AG Whole.D b] [] (AG Whole.D r) []:=
 ak 10 (.call [] [] (ZC a.Mag b.Mag) .no fun x0=>.call [] [] (mV a.Neg x0) .no fun x1=>.ret x1) Tryz.func240
def CQ (a:Whole) (b:Whole):Option Whole:=(NR a.Mag b.Mag).bind fun x0=>bif x0.2 then (lF a.Neg x0.1).bind fun x1=>some x1 else (NR b.Mag a.Mag).bind fun x1=>(lF b.Neg x1.1).bind fun x2=>some x2
theorem XK (a:Whole) (b:Whole):∀r,CQ a b=some r->aj Tryz.prog 239 0 [AG Whole.D a,AG Whole.D b] [] (AG Whole.D r) []:=
 ak 10 (.call [] [] (QB a.Mag b.Mag) .no fun x0=>.br 100000017 (.call [] [] (mV a.Neg x0.1) .no fun x1=>.ret x1) (.call [] [] (QB b.Mag a.Mag) .no fun x1=>.call [] [] (mV b.Neg x1.1) .no fun x2=>.ret x2)) Tryz.func239
def DX (a:Whole) (b:Whole):Option Whole:=bif a.Neg==b.Neg then (LU a b).bind fun x0=>some x0 else (CQ a b).bind fun x0=>some x0
theorem aez (a:Whole) (b:Whole):∀r,DX a b=some r->aj Tryz.prog 203 0 [AG Whole.D a,AG Whole.D b] [] (AG Whole.D r) []:=
 ak 10 (.br 100000011 (.call [] [] (Zp a b) .no fun x0=>.ret x0) (.call [] [] (XK a b) .no fun x0=>.ret x0)) Tryz.func203
def zO (a:Whole) (b:Whole):Option Whole:=(qU a.Mag b.Mag).bind fun x0=>(lF (!(a.Neg==b.Neg)) x0).bind fun x1=>some x1
theorem Dn (a:Whole) (b:Whole):∀r,zO a b=some r->aj Tryz.prog 204 0 [AG Whole.D a,AG Whole.D b] [] (AG Whole.D r) []:=
 ak 10 (.call [] [] (vk a.Mag b.Mag) .no fun x0=>.call [] [] (mV (!(a.Neg==b.Neg)) x0) .no fun x1=>.ret x1) Tryz.func204
def eu (neg:Bool) (n:List Int) (d:List Int):Option Rat:=(Ak n d).bind fun x0=>bif !x0.2.2 then (xH 1).bind fun x1=>some (Rat.mk false [] x1) else bif (x0.1.length:Int)==0 then (xH 1).bind fun x1=>some (Rat.mk false [] x1) else some (Rat.mk neg x0.1 x0.2.1)
theorem dP (neg:Bool) (n:List Int) (d:List Int):∀r,eu neg n d=some r->aj Tryz.prog 66 0 [B neg,SL K2 n,SL K2 d] [] (AG Rat.D r) []:=
 ak 10 (.call [] [] (Uu n d) .no fun x0=>.br 20006 (.call [] [] (pq 1) .no fun x1=>.ps 1000003 [.b 10] (.ret (Rat.mk false [] x1))) (.op 20008 (.ln K2 x0.1) (.br 100000023 (.call [] [] (pq 1) .no fun x1=>.ps 1000003 [.b 10] (.ret (Rat.mk false [] x1))) (.ret (Rat.mk neg x0.1 x0.2.1))))) Tryz.func66
def pJ (a:Rat):Option Rat:=(eu a.Neg a.Num a.Den).bind fun x0=>some x0
theorem nV (a:Rat):∀r,pJ a=some r->aj Tryz.prog 68 0 [AG Rat.D a] [] (AG Rat.D r) []:=
 ak 10 (.call [] [] (dP a.Neg a.Num a.Den) .no fun x0=>.ret x0) Tryz.func68
def nD (n:Int):Option Rat:=(Kw n).bind fun x0=>(xH 1).bind fun x1=>(eu x0.Neg x0.Mag x1).bind fun x2=>some x2
theorem iL (n:Int):∀r,nD n=some r->aj Tryz.prog 31 0 [I n] [] (AG Rat.D r) []:=
 ak 10 (.call [] [] (afg n) .no fun x0=>.call [] [] (pq 1) .no fun x1=>.call [] [] (dP x0.Neg x0.Mag x1) .no fun x2=>.ret x2) Tryz.func31
def Bh (a:Rat):Option GY:=(pJ a).bind fun x0=>some (GY.mk (JJ.mk x0))
theorem AB (a:Rat):∀r,Bh a=some r->aj Tryz.prog 202 0 [AG Rat.D a] [] (AG GY.D r) []:=
 ak 10 (.call [] [] (nV a) .no fun x0=>.ret (GY.mk (JJ.mk x0))) Tryz.func202
def iH (h:JJ):Option Whole:=some (Whole.mk h.Rat.Neg h.Rat.Num)
theorem l9 (h:JJ):∀r,iH h=some r->aj Tryz.prog 205 0 [AG JJ.D h] [] (AG Whole.D r) []:=
 ak 10 (.ret (Whole.mk h.Rat.Neg h.Rat.Num)) Tryz.func205
def iF (h:JJ):Option Whole:=some (Whole.mk false h.Rat.Den)
theorem l7 (h:JJ):∀r,iF h=some r->aj Tryz.prog 206 0 [AG JJ.D h] [] (AG Whole.D r) []:=
 ak 10 (.ret (Whole.mk false h.Rat.Den)) Tryz.func206
def DR (a:Rat) (b:Rat):Option Rat:=(Bh a).bind fun x0=>(Bh b).bind fun x1=>(iH x0.halves).bind fun x2=>(iF x1.halves).bind fun x3=>(zO x2 x3).bind fun x4=>(iH x1.halves).bind fun x5=>(iF x0.halves).bind fun x6=>(zO x5 x6).bind fun x7=>(DX x4 x7).bind fun x8=>(qU x0.halves.Rat.Den x1.halves.Rat.Den).bind fun x9=>(eu x8.Neg x8.Mag x9).bind fun x10=>some x10
theorem Jj (a:Rat) (b:Rat):∀r,DR a b=some r->aj Tryz.prog 157 0 [AG Rat.D a,AG Rat.D b] [] (AG Rat.D r) []:=
 ak 10 (.call [] [] (AB a) .no fun x0=>.call [] [] (AB b) .no fun x1=>.call [] [] (l9 x0.halves) .no fun x2=>.call [] [] (l7 x1.halves) .no fun x3=>.call [] [] (Dn x2 x3) .no fun x4=>.call [] [] (l9 x1.halves) .no fun x5=>.call [] [] (l7 x0.halves) .no fun x6=>.call [] [] (Dn x5 x6) .no fun x7=>.call [] [] (aez x4 x7) .no fun x8=>.call [] [] (vk x0.halves.Rat.Den x1.halves.Rat.Den) .no fun x9=>.call [] [] (dP x8.Neg x8.Mag x9) .no fun x10=>.ret x10) Tryz.func157
def Hr (a:Rat) (b:Rat):Option Rat:=(qU a.Num b.Num).bind fun x0=>(qU a.Den b.Den).bind fun x1=>(eu (!(a.Neg==b.Neg)) x0 x1).bind fun x2=>some x2
theorem Sr (a:Rat) (b:Rat):∀r,Hr a b=some r->aj Tryz.prog 154 0 [AG Rat.D a,AG Rat.D b] [] (AG Rat.D r) []:=
 ak 10 (.call [] [] (vk a.Num b.Num) .no fun x0=>.call [] [] (vk a.Den b.Den) .no fun x1=>.call [] [] (dP (!(a.Neg==b.Neg)) x0 x1) .no fun x2=>.ret x2) Tryz.func154
def Gp (a:Rat):Option Rat:=(eu (!a.Neg) a.Num a.Den).bind fun x0=>some x0
theorem Rj (a:Rat):∀r,Gp a=some r->aj Tryz.prog 178 0 [AG Rat.D a] [] (AG Rat.D r) []:=
 ak 10 (.call [] [] (dP (!a.Neg) a.Num a.Den) .no fun x0=>.ret x0) Tryz.func178
def Np (a:Rat) (b:Rat):Option Rat:=(Gp b).bind fun x0=>(DR a x0).bind fun x1=>some x1
theorem aeH (a:Rat) (b:Rat):∀r,Np a b=some r->aj Tryz.prog 176 0 [AG Rat.D a,AG Rat.D b] [] (AG Rat.D r) []:=
 ak 10 (.call [] [] (Rj b) .no fun x0=>.call [] [] (Jj a x0) .no fun x1=>.ret x1) Tryz.func176
def IK (n:Whole) (d:Whole):Option (Rat×Int):=(nU d.Mag).bind fun x0=>bif x0==0 then some (Rat.mk false [] [],3) else (eu (!(n.Neg==d.Neg)) n.Mag d.Mag).bind fun x1=>some (x1,0)
theorem abu (n:Whole) (d:Whole):∀r,IK n d=some r->aj Tryz.prog 232 0 [AG Whole.D n,AG Whole.D d] [] (.tup [AG Rat.D r.1,I r.2]) []:=
 ak 10 (.call [] [] (yC d.Mag) .no fun x0=>.br 100000009 (.ps 1000003 [.b 12] (.ret (Rat.mk false [] [],3))) (.call [] [] (dP (!(n.Neg==d.Neg)) n.Mag d.Mag) .no fun x1=>.ret (x1,0))) Tryz.func232
def Nv (a:Rat) (b:Rat):Option (Rat×Int):=(Bh a).bind fun x0=>(Bh b).bind fun x1=>(iH x0.halves).bind fun x2=>(iF x1.halves).bind fun x3=>(zO x2 x3).bind fun x4=>(iF x0.halves).bind fun x5=>(iH x1.halves).bind fun x6=>(zO x5 x6).bind fun x7=>(IK x4 x7).bind fun x8=>some (x8.1,x8.2)
theorem adC (a:Rat) (b:Rat):∀r,Nv a b=some r->aj Tryz.prog 177 0 [AG Rat.D a,AG Rat.D b] [] (.tup [AG Rat.D r.1,I r.2]) []:=
 ak 10 (.call [] [] (AB a) .no fun x0=>.call [] [] (AB b) .no fun x1=>.call [] [] (l9 x0.halves) .no fun x2=>.call [] [] (l7 x1.halves) .no fun x3=>.call [] [] (Dn x2 x3) .no fun x4=>.call [] [] (l7 x0.halves) .no fun x5=>.call [] [] (l9 x1.halves) .no fun x6=>.call [] [] (Dn x5 x6) .no fun x7=>.call [] [] (abu x4 x7) .no fun x8=>.ret (x8.1,x8.2)) Tryz.func177
def qV (tA:Rat) (a:Int):Option (Rat×Int):=let y0:=(Int.tmod a 2) != 0;let y1:=mxI a (0-a);let y2:=(Rat.mk false [] [],4);(Bh tA).bind fun x0=>bif decide (a<(-64)) then some y2 else bif decide (a>64) then some y2 else bif decide (a<0) then bif (x0.halves.Rat.Num.length:Int)==0 then some (Rat.mk false [] [],3) else G2 (0-a)<|(oW x0.halves.Rat.Num y1).bind fun x1=>G2 (0-a)<|(oW x0.halves.Rat.Den y1).bind fun x2=>bif x0.halves.Rat.Neg then G1 ((2:Int)≠0)<|bif decide (a<0) then (eu y0 x2.1 x1.1).bind fun x3=>some (x3,0) else (eu y0 x1.1 x2.1).bind fun x3=>some (x3,0) else bif decide (a<0) then (eu false x2.1 x1.1).bind fun x3=>some (x3,0) else (eu false x1.1 x2.1).bind fun x3=>some (x3,0) else G2 (0-a)<|(oW x0.halves.Rat.Num y1).bind fun x1=>G2 (0-a)<|(oW x0.halves.Rat.Den y1).bind fun x2=>bif x0.halves.Rat.Neg then G1 ((2:Int)≠0)<|bif decide (a<0) then (eu y0 x2.1 x1.1).bind fun x3=>some (x3,0) else (eu y0 x1.1 x2.1).bind fun x3=>some (x3,0) else bif decide (a<0) then (eu false x2.1 x1.1).bind fun x3=>some (x3,0) else (eu false x1.1 x2.1).bind fun x3=>some (x3,0)
theorem RZ (tA:Rat) (a:Int):∀r,qV tA a=some r->aj Tryz.prog 179 0 [AG Rat.D tA,I a] [] (.tup [AG Rat.D r.1,I r.2]) []:=
 let y0:=(Int.tmod a 2) != 0;let y1:=mxI a (0-a);let y2:=(Rat.mk false [] [],4);ak 10 (.call [] [] (AB tA) .no fun x0=>.br 20006 (.ps 1000003 [.b 11] (.ret y2)) (.br 100000014 (.ps 1000003 [.b 11] (.ret y2)) (.br 40006 (.op 40014 (.ln K2 x0.halves.Rat.Num) (.br 100000022 (.ps 1000003 [.b 11] (.ret (Rat.mk false [] [],3))) (.call [] [] (zy x0.halves.Rat.Num y1) .no fun x1=>.call [] [] (zy x0.halves.Rat.Den y1) .no fun x2=>.br 80010 (.op 80012 .wr (.br 100000068 (.call [] [] (dP y0 x2.1 x1.1) .no fun x3=>.ret (x3,0)) (.call [] [] (dP y0 x1.1 x2.1) .no fun x3=>.ret (x3,0)))) (.br 100000068 (.call [] [] (dP false x2.1 x1.1) .no fun x3=>.ret (x3,0)) (.call [] [] (dP false x1.1 x2.1) .no fun x3=>.ret (x3,0)))))) (.call [] [] (zy x0.halves.Rat.Num y1) .no fun x1=>.call [] [] (zy x0.halves.Rat.Den y1) .no fun x2=>.br 80010 (.op 80012 .wr (.br 100000068 (.call [] [] (dP y0 x2.1 x1.1) .no fun x3=>.ret (x3,0)) (.call [] [] (dP y0 x1.1 x2.1) .no fun x3=>.ret (x3,0)))) (.br 100000068 (.call [] [] (dP false x2.1 x1.1) .no fun x3=>.ret (x3,0)) (.call [] [] (dP false x1.1 x2.1) .no fun x3=>.ret (x3,0))))))) Tryz.func179
end Go.Ab.M
