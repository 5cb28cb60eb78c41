import Derived.Test.YtjboagogechleaaGreatTD
namespace Go.Ab.M
open Go.Proofs
set_option linter.unusedVariables false
set_option linter.defProp false
set_option maxRecDepth 100000
structure BR where
 Rat:Rat
 deriving DecidableEq,Inhabited
abbrev BR.D (x:BR):List D:=Rat.D x.Rat
structure zW where
 halves:BR
 deriving DecidableEq,Inhabited
abbrev zW.D (x:zW):List D:=BR.D x.halves
def sW (a:List Int) (b:List Int):Option (List Int×List Int×Bool):=(mF b).bind fun x0=>bif x0==0 then some ([],[],false) else (lT a b).bind fun x1=>(pW a x1).bind fun x2=>(pW b x1).bind fun x3=>some (x2.1,x3.1,true)
theorem Lu (a:List Int) (b:List Int):∀r,sW a b=some r->aj Tryz.prog 164 0 [SL (cI .u32) a,SL (cI .u32) b] [] (.tup [SL (cI .u32) r.1,SL (cI .u32) r.2.1,B r.2.2]) []:=
 ak 10 (.call [] [] (Dh b) .no fun x0=>.br 100000010 (.ps 1000003 [.n 4,.n 5] (.ret ([],[],false))) (.call [] [] (FH a b) .no fun x1=>.call [] [] (Ap a x1) .no fun x2=>.call [] [] (Ap b x1) .no fun x3=>.ret (x2.1,x3.1,true))) Tryz.func164
def Jv (a:Int) (b:Int) (c:Int):Option (Int×Int):=(jQ [a,b,c]).bind fun x0=>(rC x0).bind fun x1=>some (x1.2,x1.1)
theorem ZG (a:Int) (b:Int) (c:Int):∀r,Jv a b c=some r->aj Tryz.prog 218 0 [NI .u32 a,NI .u32 b,NI .u32 c] [] (.tup [NI .u32 r.1,NI .u32 r.2]) []:=
 ak 10 (.call [] [] (vW [a,b,c]) (.yes fun _=>⟨rfl,trivial⟩) fun x0=>.call [] [] (zn x0) .no fun x1=>.ret (x1.2,x1.1)) Tryz.func218
def Ym (a:List Int) (b:List Int) (i:Nat) (out:List Int):St:=⟨43,0,[(0,SL (cI .u32) a),(1,SL (cI .u32) b),(5,I (mxI ((a.length:Nat):Int) ((b.length:Nat):Int))),(6,.msl 10 0 none (some (((mxI ((a.length:Nat):Int) ((b.length:Nat):Int))+1).toNat))),(16,I (mxI ((a.length:Nat):Int) ((b.length:Nat):Int))),(17,I ((i:Nat):Int))],[(10,ROW 1 (cI .u32) out 0)]⟩
def Xn (a:List Int) (b:List Int) (out:List Int):St:=⟨43,0,[(6,.msl 10 0 none (some (((mxI ((a.length:Nat):Int) ((b.length:Nat):Int))+1).toNat)))],[(10,ROW 1 (cI .u32) out 0)]⟩
def qP (a:List Int) (b:List Int) (i:Nat) (out:List Int):Option ((Nat×List Int)⊕(List Int)):=bif decide (((i:Nat):Int)<(mxI ((a.length:Nat):Int) ((b.length:Nat):Int))) then (H7 a ((i:Nat):Int)).bind fun x0=>(H7 b ((i:Nat):Int)).bind fun x1=>bif decide (0<=mxI ((a.length:Nat):Int) ((b.length:Nat):Int)) then bif decide ((mxI ((a.length:Nat):Int) ((b.length:Nat):Int)).toNat<out.length) then bif decide ((mxI ((a.length:Nat):Int) ((b.length:Nat):Int)).toNat<out.length) then (Jv x0 x1 (nth out ((mxI ((a.length:Nat):Int) ((b.length:Nat):Int)).toNat))).bind fun x2=>bif decide (i<out.length) then bif decide (i<out.length) then bif decide (0<=mxI ((a.length:Nat):Int) ((b.length:Nat):Int)) then bif decide ((mxI ((a.length:Nat):Int) ((b.length:Nat):Int)).toNat<(out.set i x2.1).length) then bif decide ((mxI ((a.length:Nat):Int) ((b.length:Nat):Int)).toNat<(out.set i x2.1).length) then bif inK .i64 (((i:Nat):Int)+1) then some (.inl (i+1,(out.set i x2.1).set ((mxI ((a.length:Nat):Int) ((b.length:Nat):Int)).toNat) x2.2)) else none else none else none else none else none else none else none else none else none else some (.inr out)
theorem XK (a:List Int) (b:List Int):∀σ:Nat×List Int,aH Tryz.prog (nav [1,1,1,0,1,0,0] (ah Tryz.f178)) (fun (σ:Nat×List Int)=>Ym a b σ.1 σ.2) (fun (_:List Int)=>(.exit 0)) (fun (y:List Int)=>Xn a b y) σ (qP a b σ.1 σ.2)
 | (i,out)=>aG 1010 (.br 100000018 (.call [] [] (KQ a ((i:Nat):Int)) .no fun x0=>.call [] [] (KQ b ((i:Nat):Int)) .no fun x1=>.op 60024 (.el (cI .u32) out .dn) (.op 60026 (.ld (cI .u32) out) (.call [] [] (ZG x0 x1 (nth out ((mxI ((a.length:Nat):Int) ((b.length:Nat):Int)).toNat))) .no fun x2=>.op 60036 (.el (cI .u32) out (.up i)) (.op 60038 (.st (cI .u32) out x2.1) (.op 60040 (.el (cI .u32) (out.set i x2.1) .dn) (.op 60042 (.st (cI .u32) (out.set i x2.1) x2.2) (.ps 1000003 [.k [0,1,5,6,16,17] [10]] (.ret (.inl (i+1,(out.set i x2.1).set ((mxI ((a.length:Nat):Int) ((b.length:Nat):Int)).toNat) x2.2)))))))))) (.ps 1000003 [.k [6] [10]] (.ret (.inr out))))
def LK (a:List Int) (b:List Int) (i:Nat) (out:List Int):Option (List Int):=aJ (fun (σ:Nat×List Int)=>qP a b σ.1 σ.2) FU (i,out)
def XG (a:List Int) (b:List Int) (i:Nat) (out:List Int):=
 aP (XK a b) (fun _ h=>by cases h) FU (i,out)
def JX (a:List Int) (b:List Int):Option (List Int):=bif inK .i64 ((mxI ((a.length:Nat):Int) ((b.length:Nat):Int))+1) then bif decide (0<=(mxI ((a.length:Nat):Int) ((b.length:Nat):Int))+1) then bif decide (((mxI ((a.length:Nat):Int) ((b.length:Nat):Int))+1).toNat<=2147483648) then (LK a b 0 (List.replicate (((mxI ((a.length:Nat):Int) ((b.length:Nat):Int))+1).toNat) 0)).bind fun x0=>(fB x0).bind fun x1=>some x1 else none else none else none
theorem Va (a:List Int) (b:List Int):∀r,JX a b=some r->aj Tryz.prog 178 0 [SL (cI .u32) a,SL (cI .u32) b] [] (SL (cI .u32) r) []:=
 ak 10 (.op 10002 (.ln (cI .u32) a) (.op 10006 (.ln (cI .u32) b) (.op 20004 (.mk (cI .u32) 0 .dn) (.ps 1000001 [.k [0,1,5,6,16,17] [10]] (.lp1 0 (XG a b 0 (List.replicate (((mxI ((a.length:Nat):Int) ((b.length:Nat):Int))+1).toNat) 0)) fun x0=>.call [] [] (eX x0) .no fun x1=>.ret x1))))) Tryz.func178
def gZ (neg:Bool) (mag:List Int):Option Whole:=(fB mag).bind fun x0=>bif neg then some (Whole.mk (decide (((x0.length:Nat):Int)>0)) x0) else some (Whole.mk false x0)
theorem jc (neg:Bool) (mag:List Int):∀r,gZ neg mag=some r->aj Tryz.prog 169 0 [B neg,SL (cI .u32) mag] [] (AG Whole.D r) []:=
 ak 10 (.call [] [] (eX mag) .no fun x0=>.br 20004 (.op 20006 (.ln (cI .u32) x0) (.ret (Whole.mk (decide (((x0.length:Nat):Int)>0)) x0))) (.ret (Whole.mk false x0))) Tryz.func169
def Dq (n:Int):Option Whole:=bif decide (n<0) then bif inK .i64 (n+1) then bif inK .i64 (0-(n+1)) then (oP (IntKind.wrap .u64 (0-(n+1)))).bind fun x0=>(oP 1).bind fun x1=>(JX x0 x1).bind fun x2=>(gZ true x2).bind fun x3=>some x3 else none else none else (oP (IntKind.wrap .u64 n)).bind fun x0=>(gZ false x0).bind fun x1=>some x1
theorem Za (n:Int):∀r,Dq n=some r->aj Tryz.prog 135 0 [I n] [] (AG Whole.D r) []:=
 ak 10 (.br 100000004 (.op 20006 .wr (.call [] [] (jY (IntKind.wrap .u64 (0-(n+1)))) .no fun x0=>.call [] [] (jY 1) .no fun x1=>.call [] [] (Va x0 x1) .no fun x2=>.call [] [] (jc true x2) .no fun x3=>.ret x3)) (.op 30002 .wr (.call [] [] (jY (IntKind.wrap .u64 n)) .no fun x0=>.call [] [] (jc false x0) .no fun x1=>.ret x1))) Tryz.func135
def Dx (a:Whole) (b:Whole):Option Whole:=(JX a.Mag b.Mag).bind fun x0=>(gZ a.Neg x0).bind fun x1=>some x1
theorem UU (a:Whole) (b:Whole):∀r,Dx a b=some r->aj Tryz.prog 168 0 [AG Whole.D a,AG Whole.D b] [] (AG Whole.D r) []:=
 ak 10 (.call [] [] (Va a.Mag b.Mag) .no fun x0=>.call [] [] (jc a.Neg x0) .no fun x1=>.ret x1) Tryz.func168
def uX (a:Whole) (b:Whole):Option Whole:=(EC a.Mag b.Mag).bind fun x0=>bif x0.2 then (gZ a.Neg x0.1).bind fun x1=>some x1 else (EC b.Mag a.Mag).bind fun x1=>(gZ b.Neg x1.1).bind fun x2=>some x2
theorem O3 (a:Whole) (b:Whole):∀r,uX a b=some r->aj Tryz.prog 167 0 [AG Whole.D a,AG Whole.D b] [] (AG Whole.D r) []:=
 ak 10 (.call [] [] (Gf a.Mag b.Mag) .no fun x0=>.br 100000017 (.call [] [] (jc a.Neg x0.1) .no fun x1=>.ret x1) (.call [] [] (Gf b.Mag a.Mag) .no fun x1=>.call [] [] (jc b.Neg x1.1) .no fun x2=>.ret x2)) Tryz.func167
def wC (a:Whole) (b:Whole):Option Whole:=bif a.Neg==b.Neg then (Dx a b).bind fun x0=>some x0 else (uX a b).bind fun x0=>some x0
theorem Yo (a:Whole) (b:Whole):∀r,wC a b=some r->aj Tryz.prog 120 0 [AG Whole.D a,AG Whole.D b] [] (AG Whole.D r) []:=
 ak 10 (.br 100000011 (.call [] [] (UU a b) .no fun x0=>.ret x0) (.call [] [] (O3 a b) .no fun x0=>.ret x0)) Tryz.func120
def zN (a:Whole) (b:Whole):Option Whole:=(lF a.Mag b.Mag).bind fun x0=>(gZ (!(a.Neg==b.Neg)) x0).bind fun x1=>some x1
theorem Ih (a:Whole) (b:Whole):∀r,zN a b=some r->aj Tryz.prog 121 0 [AG Whole.D a,AG Whole.D b] [] (AG Whole.D r) []:=
 ak 10 (.call [] [] (ny a.Mag b.Mag) .no fun x0=>.call [] [] (jc (!(a.Neg==b.Neg)) x0) .no fun x1=>.ret x1) Tryz.func121
def kD (neg:Bool) (n:List Int) (d:List Int):Option Rat:=(sW n d).bind fun x0=>bif !x0.2.2 then (oP 1).bind fun x1=>some (Rat.mk false [] x1) else bif ((x0.1.length:Nat):Int)==0 then (oP 1).bind fun x1=>some (Rat.mk false [] x1) else some (Rat.mk neg x0.1 x0.2.1)
theorem oM (neg:Bool) (n:List Int) (d:List Int):∀r,kD neg n d=some r->aj Tryz.prog 115 0 [B neg,SL (cI .u32) n,SL (cI .u32) d] [] (AG Rat.D r) []:=
 ak 10 (.call [] [] (Lu n d) .no fun x0=>.br 20006 (.call [] [] (jY 1) .no fun x1=>.ps 1000003 [.b 10] (.ret (Rat.mk false [] x1))) (.op 20008 (.ln (cI .u32) x0.1) (.br 100000023 (.call [] [] (jY 1) .no fun x1=>.ps 1000003 [.b 10] (.ret (Rat.mk false [] x1))) (.ret (Rat.mk neg x0.1 x0.2.1))))) Tryz.func115
def EF (a:Rat):Option Rat:=(kD a.Neg a.Num a.Den).bind fun x0=>some x0
theorem Xp (a:Rat):∀r,EF a=some r->aj Tryz.prog 81 0 [AG Rat.D a] [] (AG Rat.D r) []:=
 ak 10 (.call [] [] (oM a.Neg a.Num a.Den) .no fun x0=>.ret x0) Tryz.func81
def zU (n:Int):Option Rat:=(Dq n).bind fun x0=>(oP 1).bind fun x1=>(kD x0.Neg x0.Mag x1).bind fun x2=>some x2
theorem DF (n:Int):∀r,zU n=some r->aj Tryz.prog 80 0 [I n] [] (AG Rat.D r) []:=
 ak 10 (.call [] [] (Za n) .no fun x0=>.call [] [] (jY 1) .no fun x1=>.call [] [] (oM x0.Neg x0.Mag x1) .no fun x2=>.ret x2) Tryz.func80
def Ed (a:Rat):Option zW:=(EF a).bind fun x0=>some (zW.mk (BR.mk x0))
theorem NM (a:Rat):∀r,Ed a=some r->aj Tryz.prog 119 0 [AG Rat.D a] [] (AG zW.D r) []:=
 ak 10 (.call [] [] (Xp a) .no fun x0=>.ret (zW.mk (BR.mk x0))) Tryz.func119
def kQ (h:BR):Option Whole:=some (Whole.mk h.Rat.Neg h.Rat.Num)
theorem qZ (h:BR):∀r,kQ h=some r->aj Tryz.prog 122 0 [AG BR.D h] [] (AG Whole.D r) []:=
 ak 10 (.ret (Whole.mk h.Rat.Neg h.Rat.Num)) Tryz.func122
def kP (h:BR):Option Whole:=some (Whole.mk false h.Rat.Den)
theorem qW (h:BR):∀r,kP h=some r->aj Tryz.prog 123 0 [AG BR.D h] [] (AG Whole.D r) []:=
 ak 10 (.ret (Whole.mk false h.Rat.Den)) Tryz.func123
def nK (a:Rat) (b:Rat):Option Rat:=(Ed a).bind fun x0=>(Ed b).bind fun x1=>(kQ x0.halves).bind fun x2=>(kP x1.halves).bind fun x3=>(zN x2 x3).bind fun x4=>(kQ x1.halves).bind fun x5=>(kP x0.halves).bind fun x6=>(zN x5 x6).bind fun x7=>(wC x4 x7).bind fun x8=>(lF x0.halves.Rat.Den x1.halves.Rat.Den).bind fun x9=>(kD x8.Neg x8.Mag x9).bind fun x10=>some x10
theorem vK (a:Rat) (b:Rat):∀r,nK a b=some r->aj Tryz.prog 59 0 [AG Rat.D a,AG Rat.D b] [] (AG Rat.D r) []:=
 ak 10 (.call [] [] (NM a) .no fun x0=>.call [] [] (NM b) .no fun x1=>.call [] [] (qZ x0.halves) .no fun x2=>.call [] [] (qW x1.halves) .no fun x3=>.call [] [] (Ih x2 x3) .no fun x4=>.call [] [] (qZ x1.halves) .no fun x5=>.call [] [] (qW x0.halves) .no fun x6=>.call [] [] (Ih x5 x6) .no fun x7=>.call [] [] (Yo x4 x7) .no fun x8=>.call [] [] (ny x0.halves.Rat.Den x1.halves.Rat.Den) .no fun x9=>.call [] [] (oM x8.Neg x8.Mag x9) .no fun x10=>.ret x10) Tryz.func59
def pU (a:Rat) (b:Rat):Option Rat:=(lF a.Num b.Num).bind fun x0=>(lF a.Den b.Den).bind fun x1=>(kD (!(a.Neg==b.Neg)) x0 x1).bind fun x2=>some x2
theorem Bf (a:Rat) (b:Rat):∀r,pU a b=some r->aj Tryz.prog 56 0 [AG Rat.D a,AG Rat.D b] [] (AG Rat.D r) []:=
 ak 10 (.call [] [] (ny a.Num b.Num) .no fun x0=>.call [] [] (ny a.Den b.Den) .no fun x1=>.call [] [] (oM (!(a.Neg==b.Neg)) x0 x1) .no fun x2=>.ret x2) Tryz.func56
end Go.Ab.M
