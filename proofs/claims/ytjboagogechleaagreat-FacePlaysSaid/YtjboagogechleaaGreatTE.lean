import Derived.Test.YtjboagogechleaaGreatTD
namespace Go.Ab.M
open Go.Proofs
set_option linter.unusedVariables false
set_option linter.defProp false
set_option maxRecDepth 100000
structure D5 where
 Rat:Rat
 deriving DecidableEq,Inhabited
abbrev D5.D (x:D5):List D:=Rat.D x.Rat
structure AX where
 halves:D5
 deriving DecidableEq,Inhabited
abbrev AX.D (x:AX):List D:=D5.D x.halves
def uq (a:List Int) (b:List Int):Option (List Int×List Int×Bool):=(nT b).bind fun x0=>bif x0==0 then some ([],[],false) else (nH a b).bind fun x1=>(qO a x1).bind fun x2=>(qO b x1).bind fun x3=>some (x2.1,x3.1,true)
theorem Og (a:List Int) (b:List Int):∀r,uq a b=some r->ak Tryz.prog 164 0 [SL (cI .u32) a,SL (cI .u32) b] [] (.tup [SL (cI .u32) r.1,SL (cI .u32) r.2.1,B r.2.2]) []:=
 ay 10 (.call [] [] (FI b) .no fun x0=>.br 100000010 (.ps 1000003 [.n 4,.n 5] (.ret ([],[],false))) (.call [] [] (Ig a b) .no fun x1=>.call [] [] (DT a x1) .no fun x2=>.call [] [] (DT b x1) .no fun x3=>.ret (x2.1,x3.1,true))) Tryz.func164
def Lh (a:Int) (b:Int) (c:Int):Option (Int×Int):=(lC [a,b,c]).bind fun x0=>(tV x0).bind fun x1=>some (x1.2,x1.1)
theorem aa3 (a:Int) (b:Int) (c:Int):∀r,Lh a b c=some r->ak Tryz.prog 218 0 [NI .u32 a,NI .u32 b,NI .u32 c] [] (.tup [NI .u32 r.1,NI .u32 r.2]) []:=
 ay 10 (.call [] [] (wI [a,b,c]) (.yes fun _=>⟨rfl,trivial⟩) fun x0=>.call [] [] (zX x0) .no fun x1=>.ret (x1.2,x1.1)) Tryz.func218
def Yy (a:List Int) (b:List Int) (i:Nat) (out:List Int):St:=⟨43,0,[(0,SL (cI .u32) a),(1,SL (cI .u32) b),(5,I (mxI ((a.length:Nat):Int) ((b.length:Nat):Int))),(6,.msl 10 0 none (some (((mxI ((a.length:Nat):Int) ((b.length:Nat):Int))+1).toNat))),(16,I (mxI ((a.length:Nat):Int) ((b.length:Nat):Int))),(17,I ((i:Nat):Int))],[(10,ROW 1 (cI .u32) out 0)]⟩
def Y2 (a:List Int) (b:List Int) (out:List Int):St:=⟨43,0,[(6,.msl 10 0 none (some (((mxI ((a.length:Nat):Int) ((b.length:Nat):Int))+1).toNat)))],[(10,ROW 1 (cI .u32) out 0)]⟩
def rG (a:List Int) (b:List Int) (i:Nat) (out:List Int):Option ((Nat×List Int)⊕(List Int)):=bif decide (((i:Nat):Int)<(mxI ((a.length:Nat):Int) ((b.length:Nat):Int))) then (IY a ((i:Nat):Int)).bind fun x0=>(IY b ((i:Nat):Int)).bind fun x1=>bif decide (0<=mxI ((a.length:Nat):Int) ((b.length:Nat):Int)) then bif decide ((mxI ((a.length:Nat):Int) ((b.length:Nat):Int)).toNat<out.length) then bif decide ((mxI ((a.length:Nat):Int) ((b.length:Nat):Int)).toNat<out.length) then (Lh x0 x1 (nth out ((mxI ((a.length:Nat):Int) ((b.length:Nat):Int)).toNat))).bind fun x2=>bif decide (i<out.length) then bif decide (i<out.length) then bif decide (0<=mxI ((a.length:Nat):Int) ((b.length:Nat):Int)) then bif decide ((mxI ((a.length:Nat):Int) ((b.length:Nat):Int)).toNat<(out.set i x2.1).length) then bif decide ((mxI ((a.length:Nat):Int) ((b.length:Nat):Int)).toNat<(out.set i x2.1).length) then bif inK .i64 (((i:Nat):Int)+1) then some (.inl (i+1,(out.set i x2.1).set ((mxI ((a.length:Nat):Int) ((b.length:Nat):Int)).toNat) x2.2)) else none else none else none else none else none else none else none else none else none else some (.inr out)
theorem Zy (a:List Int) (b:List Int):∀σ:Nat×List Int,aJ Tryz.prog (nav [1,1,1,0,1,0,0] (aj Tryz.f178)) (fun (σ:Nat×List Int)=>Yy a b σ.1 σ.2) (fun (_:List Int)=>(.exit 0)) (fun (y:List Int)=>Y2 a b y) σ (rG a b σ.1 σ.2)
 | (i,out)=>aB 1010 (.br 100000018 (.call [] [] (MN a ((i:Nat):Int)) .no fun x0=>.call [] [] (MN b ((i:Nat):Int)) .no fun x1=>.op 60024 (.el (cI .u32) out .dn) (.op 60026 (.ld (cI .u32) out) (.call [] [] (aa3 x0 x1 (nth out ((mxI ((a.length:Nat):Int) ((b.length:Nat):Int)).toNat))) .no fun x2=>.op 60036 (.el (cI .u32) out (.up i)) (.op 60038 (.st (cI .u32) out x2.1) (.op 60040 (.el (cI .u32) (out.set i x2.1) .dn) (.op 60042 (.st (cI .u32) (out.set i x2.1) x2.2) (.ps 1000003 [.k [0,1,5,6,16,17] [10]] (.ret (.inl (i+1,(out.set i x2.1).set ((mxI ((a.length:Nat):Int) ((b.length:Nat):Int)).toNat) x2.2)))))))))) (.ps 1000003 [.k [6] [10]] (.ret (.inr out))))
def Np (a:List Int) (b:List Int) (i:Nat) (out:List Int):Option (List Int):=aK (fun (σ:Nat×List Int)=>rG a b σ.1 σ.2) FU (i,out)
def X8 (a:List Int) (b:List Int) (i:Nat) (out:List Int):=
 aP (Zy a b) (fun _ h=>by cases h) FU (i,out)
def RP (a:List Int) (b:List Int):Option (List Int):=bif inK .i64 ((mxI ((a.length:Nat):Int) ((b.length:Nat):Int))+1) then bif decide (0<=(mxI ((a.length:Nat):Int) ((b.length:Nat):Int))+1) then bif decide (((mxI ((a.length:Nat):Int) ((b.length:Nat):Int))+1).toNat<=2147483648) then (Np a b 0 (List.replicate (((mxI ((a.length:Nat):Int) ((b.length:Nat):Int))+1).toNat) 0)).bind fun x0=>(gu x0).bind fun x1=>some x1 else none else none else none
theorem abP (a:List Int) (b:List Int):∀r,RP a b=some r->ak Tryz.prog 178 0 [SL (cI .u32) a,SL (cI .u32) b] [] (SL (cI .u32) r) []:=
 ay 10 (.op 10002 (.ln (cI .u32) a) (.op 10006 (.ln (cI .u32) b) (.op 20004 (.mk (cI .u32) 0 .dn) (.ps 1000001 [.k [0,1,5,6,16,17] [10]] (.lp1 0 (X8 a b 0 (List.replicate (((mxI ((a.length:Nat):Int) ((b.length:Nat):Int))+1).toNat) 0)) fun x0=>.call [] [] (fZ x0) .no fun x1=>.ret x1))))) Tryz.func178
def lX (neg:Bool) (mag:List Int):Option Whole:=(gu mag).bind fun x0=>bif neg then some (Whole.mk (decide (((x0.length:Nat):Int)>0)) x0) else some (Whole.mk false x0)
theorem pR (neg:Bool) (mag:List Int):∀r,lX neg mag=some r->ak Tryz.prog 169 0 [B neg,SL (cI .u32) mag] [] (AG Whole.D r) []:=
 ay 10 (.call [] [] (fZ mag) .no fun x0=>.br 20004 (.op 20006 (.ln (cI .u32) x0) (.ret (Whole.mk (decide (((x0.length:Nat):Int)>0)) x0))) (.ret (Whole.mk false x0))) Tryz.func169
def Fa (a:Whole) (b:Whole):Option Whole:=(RP a.Mag b.Mag).bind fun x0=>(lX a.Neg x0).bind fun x1=>some x1
theorem Wn (a:Whole) (b:Whole):∀r,Fa a b=some r->ak Tryz.prog 168 0 [AG Whole.D a,AG Whole.D b] [] (AG Whole.D r) []:=
 ay 10 (.call [] [] (abP a.Mag b.Mag) .no fun x0=>.call [] [] (pR a.Neg x0) .no fun x1=>.ret x1) Tryz.func168
def wE (a:Whole) (b:Whole):Option Whole:=(Gz a.Mag b.Mag).bind fun x0=>bif x0.2 then (lX a.Neg x0.1).bind fun x1=>some x1 else (Gz b.Mag a.Mag).bind fun x1=>(lX b.Neg x1.1).bind fun x2=>some x2
theorem Qw (a:Whole) (b:Whole):∀r,wE a b=some r->ak Tryz.prog 167 0 [AG Whole.D a,AG Whole.D b] [] (AG Whole.D r) []:=
 ay 10 (.call [] [] (JA a.Mag b.Mag) .no fun x0=>.br 100000017 (.call [] [] (pR a.Neg x0.1) .no fun x1=>.ret x1) (.call [] [] (JA b.Mag a.Mag) .no fun x1=>.call [] [] (pR b.Neg x1.1) .no fun x2=>.ret x2)) Tryz.func167
def xq (a:Whole) (b:Whole):Option Whole:=bif a.Neg==b.Neg then (Fa a b).bind fun x0=>some x0 else (wE a b).bind fun x0=>some x0
theorem Yf (a:Whole) (b:Whole):∀r,xq a b=some r->ak Tryz.prog 120 0 [AG Whole.D a,AG Whole.D b] [] (AG Whole.D r) []:=
 ay 10 (.br 100000011 (.call [] [] (Wn a b) .no fun x0=>.ret x0) (.call [] [] (Qw a b) .no fun x0=>.ret x0)) Tryz.func120
def Bg (a:Whole) (b:Whole):Option Whole:=(mV a.Mag b.Mag).bind fun x0=>(lX (!(a.Neg==b.Neg)) x0).bind fun x1=>some x1
theorem KY (a:Whole) (b:Whole):∀r,Bg a b=some r->ak Tryz.prog 121 0 [AG Whole.D a,AG Whole.D b] [] (AG Whole.D r) []:=
 ay 10 (.call [] [] (oK a.Mag b.Mag) .no fun x0=>.call [] [] (pR (!(a.Neg==b.Neg)) x0) .no fun x1=>.ret x1) Tryz.func121
def oO (neg:Bool) (n:List Int) (d:List Int):Option Rat:=(uq n d).bind fun x0=>bif !x0.2.2 then (xU 1).bind fun x1=>some (Rat.mk false [] x1) else bif ((x0.1.length:Nat):Int)==0 then (xU 1).bind fun x1=>some (Rat.mk false [] x1) else some (Rat.mk neg x0.1 x0.2.1)
theorem vN (neg:Bool) (n:List Int) (d:List Int):∀r,oO neg n d=some r->ak Tryz.prog 115 0 [B neg,SL (cI .u32) n,SL (cI .u32) d] [] (AG Rat.D r) []:=
 ay 10 (.call [] [] (Og n d) .no fun x0=>.br 20006 (.call [] [] (sW 1) .no fun x1=>.ps 1000003 [.b 10] (.ret (Rat.mk false [] x1))) (.op 20008 (.ln (cI .u32) x0.1) (.br 100000023 (.call [] [] (sW 1) .no fun x1=>.ps 1000003 [.b 10] (.ret (Rat.mk false [] x1))) (.ret (Rat.mk neg x0.1 x0.2.1))))) Tryz.func115
def GY (a:Rat):Option Rat:=(oO a.Neg a.Num a.Den).bind fun x0=>some x0
theorem Yc (a:Rat):∀r,GY a=some r->ak Tryz.prog 81 0 [AG Rat.D a] [] (AG Rat.D r) []:=
 ay 10 (.call [] [] (vN a.Neg a.Num a.Den) .no fun x0=>.ret x0) Tryz.func81
def FZ (a:Rat):Option AX:=(GY a).bind fun x0=>some (AX.mk (D5.mk x0))
theorem OL (a:Rat):∀r,FZ a=some r->ak Tryz.prog 119 0 [AG Rat.D a] [] (AG AX.D r) []:=
 ay 10 (.call [] [] (Yc a) .no fun x0=>.ret (AX.mk (D5.mk x0))) Tryz.func119
def lN (h:D5):Option Whole:=some (Whole.mk h.Rat.Neg h.Rat.Num)
theorem sG (h:D5):∀r,lN h=some r->ak Tryz.prog 122 0 [AG D5.D h] [] (AG Whole.D r) []:=
 ay 10 (.ret (Whole.mk h.Rat.Neg h.Rat.Num)) Tryz.func122
def lU (h:D5):Option Whole:=some (Whole.mk false h.Rat.Den)
theorem sO (h:D5):∀r,lU h=some r->ak Tryz.prog 123 0 [AG D5.D h] [] (AG Whole.D r) []:=
 ay 10 (.ret (Whole.mk false h.Rat.Den)) Tryz.func123
def Gt (a:Rat) (b:Rat):Option Rat:=(FZ a).bind fun x0=>(FZ b).bind fun x1=>(lN x0.halves).bind fun x2=>(lU x1.halves).bind fun x3=>(Bg x2 x3).bind fun x4=>(lN x1.halves).bind fun x5=>(lU x0.halves).bind fun x6=>(Bg x5 x6).bind fun x7=>(xq x4 x7).bind fun x8=>(mV x0.halves.Rat.Den x1.halves.Rat.Den).bind fun x9=>(oO x8.Neg x8.Mag x9).bind fun x10=>some x10
theorem Y0 (a:Rat) (b:Rat):∀r,Gt a b=some r->ak Tryz.prog 59 0 [AG Rat.D a,AG Rat.D b] [] (AG Rat.D r) []:=
 ay 10 (.call [] [] (OL a) .no fun x0=>.call [] [] (OL b) .no fun x1=>.call [] [] (sG x0.halves) .no fun x2=>.call [] [] (sO x1.halves) .no fun x3=>.call [] [] (KY x2 x3) .no fun x4=>.call [] [] (sG x1.halves) .no fun x5=>.call [] [] (sO x0.halves) .no fun x6=>.call [] [] (KY x5 x6) .no fun x7=>.call [] [] (Yf x4 x7) .no fun x8=>.call [] [] (oK x0.halves.Rat.Den x1.halves.Rat.Den) .no fun x9=>.call [] [] (vN x8.Neg x8.Mag x9) .no fun x10=>.ret x10) Tryz.func59
def Ba (a:Rat) (b:Rat):Option Rat:=(mV a.Num b.Num).bind fun x0=>(mV a.Den b.Den).bind fun x1=>(oO (!(a.Neg==b.Neg)) x0 x1).bind fun x2=>some x2
theorem YI (a:Rat) (b:Rat):∀r,Ba a b=some r->ak Tryz.prog 56 0 [AG Rat.D a,AG Rat.D b] [] (AG Rat.D r) []:=
 ay 10 (.call [] [] (oK a.Num b.Num) .no fun x0=>.call [] [] (oK a.Den b.Den) .no fun x1=>.call [] [] (vN (!(a.Neg==b.Neg)) x0 x1) .no fun x2=>.ret x2) Tryz.func56
end Go.Ab.M
