import Derived.Test.YtjboagogechleaaGreatTD
namespace Go.Ab.M
open Go.Proofs
set_option linter.unusedVariables false
set_option linter.defProp false
set_option maxRecDepth 100000
structure Gw where
 Rat:Rat
 deriving DecidableEq,Inhabited
abbrev Gw.D (x:Gw):List D:=Rat.D x.Rat
structure DW where
 halves:Gw
 deriving DecidableEq,Inhabited
abbrev DW.D (x:DW):List D:=Gw.D x.halves
def xO (a:List Int) (b:List Int):Option (List Int×List Int×Bool):=(ql b).bind fun x0=>bif x0==0 then some ([],[],false) else (qc a b).bind fun x1=>(uy a x1).bind fun x2=>(uy b x1).bind fun x3=>some (x2.1,x3.1,true)
theorem Ry (a:List Int) (b:List Int):∀r,xO a b=some r->ak Tryz.prog 164 0 [SL K5 a,SL K5 b] [] (.tup [SL K5 r.1,SL K5 r.2.1,B r.2.2]) []:=
 ay 10 (.call [] [] (Hu b) .no fun x0=>.br 100000010 (.ps 1000003 [.n 4,.n 5] (.ret ([],[],false))) (.call [] [] (KY a b) .no fun x1=>.call [] [] (Fq a x1) .no fun x2=>.call [] [] (Fq b x1) .no fun x3=>.ret (x2.1,x3.1,true))) Tryz.func164
def NW (a:Int) (b:Int) (c:Int):Option (Int×Int):=(nC [a,b,c]).bind fun x0=>(wR x0).bind fun x1=>some (x1.2,x1.1)
theorem acX (a:Int) (b:Int) (c:Int):∀r,NW a b c=some r->ak Tryz.prog 218 0 [NI .u32 a,NI .u32 b,NI .u32 c] [] (.tup [NI .u32 r.1,NI .u32 r.2]) []:=
 ay 10 (.call [] [] (zT [a,b,c]) (.yes fun _=>⟨rfl,trivial⟩) fun x0=>.call [] [] (DN x0) .no fun x1=>.ret (x1.2,x1.1)) Tryz.func218
def abM (a:List Int) (b:List Int) (i:Nat) (out:List Int):St:=⟨43,0,[(0,SL K5 a),(1,SL K5 b),(5,I (mxI (a.length:Int) (b.length:Int))),(6,.msl 10 0 none (some (((mxI (a.length:Int) (b.length:Int))+1).toNat))),(16,I (mxI (a.length:Int) (b.length:Int))),(17,I (i:Int))],[(10,ROW 1 K5 out 0)]⟩
def abo (a:List Int) (b:List Int) (out:List Int):St:=⟨43,0,[(6,.msl 10 0 none (some (((mxI (a.length:Int) (b.length:Int))+1).toNat)))],[(10,ROW 1 K5 out 0)]⟩
def vO (a:List Int) (b:List Int) (i:Nat) (out:List Int):Option ((Nat×List Int)⊕(List Int)):=let y0:=mxI (a.length:Int) (b.length:Int);let y1:=0<=mxI (a.length:Int) (b.length:Int);let y2:=y0.toNat<out.length;let y3:=i<out.length;bif decide ((i:Int)<y0) then (MB a (i:Int)).bind fun x0=>(MB b (i:Int)).bind fun x1=>G1 y1<|G1 y2<|G1 y2<|(NW x0 x1 (nth out (y0.toNat))).bind fun x2=>G1 y3<|G1 y3<|G1 y1<|G1 (y0.toNat<(out.set i x2.1).length)<|G1 (y0.toNat<(out.set i x2.1).length)<|G3 ((i:Int)+1)<|some (.inl (i+1,(out.set i x2.1).set (y0.toNat) x2.2)) else some (.inr out)
theorem aaC (a:List Int) (b:List Int):∀σ:Nat×List Int,aP Tryz.prog (nav [1,1,1,0,1,0,0] (aj Tryz.f178)) (fun (σ:Nat×List Int)=>abM a b σ.1 σ.2) (fun (_:List Int)=>(.exit 0)) (fun (y:List Int)=>abo a b y) σ (vO a b σ.1 σ.2)
 | (i,out)=>let y0:=(mxI (a.length:Int) (b.length:Int)).toNat;aK 1010 (.br 100000018 (.call [] [] (QA a (i:Int)) .no fun x0=>.call [] [] (QA b (i:Int)) .no fun x1=>.op 60024 (.el K5 out .dn) (.op 60026 (.ld K5 out) (.call [] [] (acX x0 x1 (nth out y0)) .no fun x2=>.op 60036 (.el K5 out (.up i)) (.op 60038 (.st K5 out x2.1) (.op 60040 (.el K5 (out.set i x2.1) .dn) (.op 60042 (.st K5 (out.set i x2.1) x2.2) (G4 [0,1,5,6,16,17] [10] (.ret (.inl (i+1,(out.set i x2.1).set y0 x2.2)))))))))) (G4 [6] [10] (.ret (.inr out))))
def QX (a:List Int) (b:List Int) (i:Nat) (out:List Int):Option (List Int):=aN (fun (σ:Nat×List Int)=>vO a b σ.1 σ.2) FU (i,out)
def aa4 (a:List Int) (b:List Int) (i:Nat) (out:List Int):=
 aU (aaC a b) (fun _ h=>by cases h) FU (i,out)
def Oc (a:List Int) (b:List Int):Option (List Int):=G3 ((mxI (a.length:Int) (b.length:Int))+1)<|G1 (0<=(mxI (a.length:Int) (b.length:Int))+1)<|G1 (((mxI (a.length:Int) (b.length:Int))+1).toNat<=2147483648)<|(QX a b 0 (List.replicate (((mxI (a.length:Int) (b.length:Int))+1).toNat) 0)).bind fun x0=>(iD x0).bind fun x1=>some x1
theorem Yv (a:List Int) (b:List Int):∀r,Oc a b=some r->ak Tryz.prog 178 0 [SL K5 a,SL K5 b] [] (SL K5 r) []:=
 ay 10 (.op 10002 (.ln K5 a) (.op 10006 (.ln K5 b) (.op 20004 (.mk K5 0 .dn) (K3 [0,1,5,6,16,17] [10] (.lp1 0 (aa4 a b 0 (List.replicate (((mxI (a.length:Int) (b.length:Int))+1).toNat) 0)) fun x0=>.call [] [] (ig x0) .no fun x1=>.ret x1))))) Tryz.func178
def jD (neg:Bool) (mag:List Int):Option Whole:=(iD mag).bind fun x0=>bif neg then some (Whole.mk (decide ((x0.length:Int)>0)) x0) else some (Whole.mk false x0)
theorem kW (neg:Bool) (mag:List Int):∀r,jD neg mag=some r->ak Tryz.prog 169 0 [B neg,SL K5 mag] [] (AG Whole.D r) []:=
 ay 10 (.call [] [] (ig mag) .no fun x0=>.br 20004 (.op 20006 (.ln K5 x0) (.ret (Whole.mk (decide ((x0.length:Int)>0)) x0))) (.ret (Whole.mk false x0))) Tryz.func169
def Ip (n:Int):Option Whole:=bif decide (n<0) then G3 (n+1)<|G3 (0-(n+1))<|(tN (IntKind.wrap .u64 (0-(n+1)))).bind fun x0=>(tN 1).bind fun x1=>(Oc x0 x1).bind fun x2=>(jD true x2).bind fun x3=>some x3 else (tN (IntKind.wrap .u64 n)).bind fun x0=>(jD false x0).bind fun x1=>some x1
theorem acr (n:Int):∀r,Ip n=some r->ak Tryz.prog 135 0 [I n] [] (AG Whole.D r) []:=
 ay 10 (.br 100000004 (.op 20006 .wr (.call [] [] (mG (IntKind.wrap .u64 (0-(n+1)))) .no fun x0=>.call [] [] (mG 1) .no fun x1=>.call [] [] (Yv x0 x1) .no fun x2=>.call [] [] (kW true x2) .no fun x3=>.ret x3)) (.op 30002 .wr (.call [] [] (mG (IntKind.wrap .u64 n)) .no fun x0=>.call [] [] (kW false x0) .no fun x1=>.ret x1))) Tryz.func135
def Hy (a:Whole) (b:Whole):Option Whole:=(Oc a.Mag b.Mag).bind fun x0=>(jD a.Neg x0).bind fun x1=>some x1
theorem VR (a:Whole) (b:Whole):∀r,Hy a b=some r->ak Tryz.prog 168 0 [AG Whole.D a,AG Whole.D b] [] (AG Whole.D r) []:=
 ay 10 (.call [] [] (Yv a.Mag b.Mag) .no fun x0=>.call [] [] (kW a.Neg x0) .no fun x1=>.ret x1) Tryz.func168
def zN (a:Whole) (b:Whole):Option Whole:=(JV a.Mag b.Mag).bind fun x0=>bif x0.2 then (jD a.Neg x0.1).bind fun x1=>some x1 else (JV b.Mag a.Mag).bind fun x1=>(jD b.Neg x1.1).bind fun x2=>some x2
theorem UE (a:Whole) (b:Whole):∀r,zN a b=some r->ak Tryz.prog 167 0 [AG Whole.D a,AG Whole.D b] [] (AG Whole.D r) []:=
 ay 10 (.call [] [] (MR a.Mag b.Mag) .no fun x0=>.br 100000017 (.call [] [] (kW a.Neg x0.1) .no fun x1=>.ret x1) (.call [] [] (MR b.Mag a.Mag) .no fun x1=>.call [] [] (kW b.Neg x1.1) .no fun x2=>.ret x2)) Tryz.func167
def Aa (a:Whole) (b:Whole):Option Whole:=bif a.Neg==b.Neg then (Hy a b).bind fun x0=>some x0 else (zN a b).bind fun x0=>some x0
theorem abU (a:Whole) (b:Whole):∀r,Aa a b=some r->ak Tryz.prog 120 0 [AG Whole.D a,AG Whole.D b] [] (AG Whole.D r) []:=
 ay 10 (.br 100000011 (.call [] [] (VR a b) .no fun x0=>.ret x0) (.call [] [] (UE a b) .no fun x0=>.ret x0)) Tryz.func120
def D7 (a:Whole) (b:Whole):Option Whole:=(oZ a.Mag b.Mag).bind fun x0=>(jD (!(a.Neg==b.Neg)) x0).bind fun x1=>some x1
theorem PV (a:Whole) (b:Whole):∀r,D7 a b=some r->ak Tryz.prog 121 0 [AG Whole.D a,AG Whole.D b] [] (AG Whole.D r) []:=
 ay 10 (.call [] [] (qZ a.Mag b.Mag) .no fun x0=>.call [] [] (kW (!(a.Neg==b.Neg)) x0) .no fun x1=>.ret x1) Tryz.func121
def nV (neg:Bool) (n:List Int) (d:List Int):Option Rat:=(xO n d).bind fun x0=>bif !x0.2.2 then (tN 1).bind fun x1=>some (Rat.mk false [] x1) else bif (x0.1.length:Int)==0 then (tN 1).bind fun x1=>some (Rat.mk false [] x1) else some (Rat.mk neg x0.1 x0.2.1)
theorem tu (neg:Bool) (n:List Int) (d:List Int):∀r,nV neg n d=some r->ak Tryz.prog 115 0 [B neg,SL K5 n,SL K5 d] [] (AG Rat.D r) []:=
 ay 10 (.call [] [] (Ry n d) .no fun x0=>.br 20006 (.call [] [] (mG 1) .no fun x1=>.ps 1000003 [.b 10] (.ret (Rat.mk false [] x1))) (.op 20008 (.ln K5 x0.1) (.br 100000023 (.call [] [] (mG 1) .no fun x1=>.ps 1000003 [.b 10] (.ret (Rat.mk false [] x1))) (.ret (Rat.mk neg x0.1 x0.2.1))))) Tryz.func115
def uq (a:Rat):Option Rat:=(nV a.Neg a.Num a.Den).bind fun x0=>some x0
theorem zV (a:Rat):∀r,uq a=some r->ak Tryz.prog 81 0 [AG Rat.D a] [] (AG Rat.D r) []:=
 ay 10 (.call [] [] (tu a.Neg a.Num a.Den) .no fun x0=>.ret x0) Tryz.func81
def vW (n:Int):Option Rat:=(Ip n).bind fun x0=>(tN 1).bind fun x1=>(nV x0.Neg x0.Mag x1).bind fun x2=>some x2
theorem uH (n:Int):∀r,vW n=some r->ak Tryz.prog 80 0 [I n] [] (AG Rat.D r) []:=
 ay 10 (.call [] [] (acr n) .no fun x0=>.call [] [] (mG 1) .no fun x1=>.call [] [] (tu x0.Neg x0.Mag x1) .no fun x2=>.ret x2) Tryz.func80
def Ij (a:Rat):Option DW:=(uq a).bind fun x0=>some (DW.mk (Gw.mk x0))
theorem Tj (a:Rat):∀r,Ij a=some r->ak Tryz.prog 119 0 [AG Rat.D a] [] (AG DW.D r) []:=
 ay 10 (.call [] [] (zV a) .no fun x0=>.ret (DW.mk (Gw.mk x0))) Tryz.func119
def nT (h:Gw):Option Whole:=some (Whole.mk h.Rat.Neg h.Rat.Num)
theorem wG (h:Gw):∀r,nT h=some r->ak Tryz.prog 122 0 [AG Gw.D h] [] (AG Whole.D r) []:=
 ay 10 (.ret (Whole.mk h.Rat.Neg h.Rat.Num)) Tryz.func122
def nX (h:Gw):Option Whole:=some (Whole.mk false h.Rat.Den)
theorem wH (h:Gw):∀r,nX h=some r->ak Tryz.prog 123 0 [AG Gw.D h] [] (AG Whole.D r) []:=
 ay 10 (.ret (Whole.mk false h.Rat.Den)) Tryz.func123
def mZ (a:Rat) (b:Rat):Option Rat:=(Ij a).bind fun x0=>(Ij b).bind fun x1=>(nT x0.halves).bind fun x2=>(nX x1.halves).bind fun x3=>(D7 x2 x3).bind fun x4=>(nT x1.halves).bind fun x5=>(nX x0.halves).bind fun x6=>(D7 x5 x6).bind fun x7=>(Aa x4 x7).bind fun x8=>(oZ x0.halves.Rat.Den x1.halves.Rat.Den).bind fun x9=>(nV x8.Neg x8.Mag x9).bind fun x10=>some x10
theorem rF (a:Rat) (b:Rat):∀r,mZ a b=some r->ak Tryz.prog 59 0 [AG Rat.D a,AG Rat.D b] [] (AG Rat.D r) []:=
 ay 10 (.call [] [] (Tj a) .no fun x0=>.call [] [] (Tj b) .no fun x1=>.call [] [] (wG x0.halves) .no fun x2=>.call [] [] (wH x1.halves) .no fun x3=>.call [] [] (PV x2 x3) .no fun x4=>.call [] [] (wG x1.halves) .no fun x5=>.call [] [] (wH x0.halves) .no fun x6=>.call [] [] (PV x5 x6) .no fun x7=>.call [] [] (abU x4 x7) .no fun x8=>.call [] [] (qZ x0.halves.Rat.Den x1.halves.Rat.Den) .no fun x9=>.call [] [] (tu x8.Neg x8.Mag x9) .no fun x10=>.ret x10) Tryz.func59
def nI (a:Rat) (b:Rat):Option Rat:=(oZ a.Num b.Num).bind fun x0=>(oZ a.Den b.Den).bind fun x1=>(nV (!(a.Neg==b.Neg)) x0 x1).bind fun x2=>some x2
theorem wz (a:Rat) (b:Rat):∀r,nI a b=some r->ak Tryz.prog 56 0 [AG Rat.D a,AG Rat.D b] [] (AG Rat.D r) []:=
 ay 10 (.call [] [] (qZ a.Num b.Num) .no fun x0=>.call [] [] (qZ a.Den b.Den) .no fun x1=>.call [] [] (tu (!(a.Neg==b.Neg)) x0 x1) .no fun x2=>.ret x2) Tryz.func56
end Go.Ab.M
