import Derived.Test.YtcelliafjmmldaaGreatTD
namespace Go.Ab.M
open Go.Proofs
set_option linter.unusedVariables false
set_option maxRecDepth 100000
structure I8 where
 Rat:Rat
 deriving DecidableEq,Inhabited
abbrev I8.D (x:I8):List D:=Rat.D x.Rat
structure Dy where
 halves:I8
 deriving DecidableEq,Inhabited
abbrev Dy.D (x:Dy):List D:=I8.D x.halves
def yR (a:List Int) (b:List Int):Option (List Int×List Int×Bool):=
 (lF b).bind fun x0=>
 bif x0==0 then
 some ([],[],false)
 else
 (pO a b).bind fun x1=>
 (uI a x1).bind fun x2=>
 (uI b x1).bind fun x3=>
 some (x2.1,x3.1,true)
theorem Qg (a:List Int) (b:List Int):∀r,yR a b=some r→aj Tryz.prog 211 0 [SL (cI .u32) a,SL (cI .u32) b] [] (.tup [SL (cI .u32) r.1,SL (cI .u32) r.2.1,B r.2.2]) []:=
 au (enc:=fun r=>.tup [SL (cI .u32) r.1,SL (cI .u32) r.2.1,B r.2.2]) (aQ:=fun r=>[]) 10 (.call [] [] (uH b) .no fun x0=>.br 100000010 (.ps 1000003 [.n 4,.n 5] (.ret ([],[],false))) (.call [] [] (MO a b) .no fun x1=>.call [] [] (Ih a x1) .no fun x2=>.call [] [] (Ih b x1) .no fun x3=>.ret (x2.1,x3.1,true))) Tryz.func211 (by kernel_rfl) (by kernel_rfl) (by kernel_rfl)
def PW (a:Int) (b:Int) (c:Int):Option (Int×Int):=
 (mY [a,b,c]).bind fun x0=>
 (yc x0).bind fun x1=>
 some (x1.2,x1.1)
theorem aau (a:Int) (b:Int) (c:Int):∀r,PW a b c=some r→aj Tryz.prog 261 0 [NI .u32 a,NI .u32 b,NI .u32 c] [] (.tup [NI .u32 r.1,NI .u32 r.2]) []:=
 au (enc:=fun r=>.tup [NI .u32 r.1,NI .u32 r.2]) (aQ:=fun r=>[]) 10 (.call [] [] (BU [a,b,c]) (.yes fun _=>⟨rfl,trivial⟩) fun x0=>.call [] [] (FH x0) .no fun x1=>.ret (x1.2,x1.1)) Tryz.func261 (by kernel_rfl) (by kernel_rfl) (by kernel_rfl)
def I4 (a:List Int) (b:List Int) (i:Nat) (out:List Int):St:=⟨43,0,[(0,SL (cI .u32) a),(1,SL (cI .u32) b),(5,I (mxI ((a.length:Nat):Int) ((b.length:Nat):Int))),(6,.msl 10 0 none (some (((mxI ((a.length:Nat):Int) ((b.length:Nat):Int))+1).toNat))),(16,I (mxI ((a.length:Nat):Int) ((b.length:Nat):Int))),(17,I ((i:Nat):Int))],[(10,ROW 1 (cI .u32) out 0)]⟩
def Hl (a:List Int) (b:List Int) (out:List Int):St:=⟨43,0,[(6,.msl 10 0 none (some (((mxI ((a.length:Nat):Int) ((b.length:Nat):Int))+1).toNat)))],[(10,ROW 1 (cI .u32) out 0)]⟩
def vS (a:List Int) (b:List Int) (i:Nat) (out:List Int):Option ((Nat×List Int)⊕(List Int)):=
 bif decide (((i:Nat):Int)<(mxI ((a.length:Nat):Int) ((b.length:Nat):Int))) then
 (NR a ((i:Nat):Int)).bind fun x0=>
 (NR b ((i:Nat):Int)).bind fun x1=>
 bif decide (0≤mxI ((a.length:Nat):Int) ((b.length:Nat):Int)) then
 bif decide ((mxI ((a.length:Nat):Int) ((b.length:Nat):Int)).toNat<out.length) then
 bif decide ((mxI ((a.length:Nat):Int) ((b.length:Nat):Int)).toNat<out.length) then
 (PW x0 x1 (nth out ((mxI ((a.length:Nat):Int) ((b.length:Nat):Int)).toNat))).bind fun x2=>
 bif decide (i<out.length) then
 bif decide (i<out.length) then
 bif decide (0≤mxI ((a.length:Nat):Int) ((b.length:Nat):Int)) then
 bif decide ((mxI ((a.length:Nat):Int) ((b.length:Nat):Int)).toNat<(out.set i x2.1).length) then
 bif decide ((mxI ((a.length:Nat):Int) ((b.length:Nat):Int)).toNat<(out.set i x2.1).length) then
 bif inK .i64 (((i:Nat):Int)+1) then
 some (.inl (i+1,(out.set i x2.1).set ((mxI ((a.length:Nat):Int) ((b.length:Nat):Int)).toNat) x2.2))
 else none
 else none
 else none
 else none
 else none
 else none
 else none
 else none
 else none
 else
 some (.inr out)
theorem Zq (a:List Int) (b:List Int):∀σ:Nat×List Int,aP Tryz.prog (nav [1,1,1,0,1,0,0] (ah Tryz.f210)) (fun (σ:Nat×List Int)=>I4 a b σ.1 σ.2) (fun (_:List Int)=>(.exit 0)) (fun (y:List Int)=>Hl a b y) σ (vS a b σ.1 σ.2)
 | (i,out)=>aJ 1010 (.br 100000018 (.call [] [] (Ru a ((i:Nat):Int)) .no fun x0=>.call [] [] (Ru b ((i:Nat):Int)) .no fun x1=>.op 60024 (.el (cI .u32) out .dn) (.op 60026 (.ld (cI .u32) out) (.call [] [] (aau x0 x1 (nth out ((mxI ((a.length:Nat):Int) ((b.length:Nat):Int)).toNat))) .no fun x2=>.op 60036 (.el (cI .u32) out (.up i)) (.op 60038 (.st (cI .u32) out x2.1) (.op 60040 (.el (cI .u32) (out.set i x2.1) .dn) (.op 60042 (.st (cI .u32) (out.set i x2.1) x2.2) (.ps 1000003 [.k [0,1,5,6,16,17] [10]] (.ret (.inl (i+1,(out.set i x2.1).set ((mxI ((a.length:Nat):Int) ((b.length:Nat):Int)).toNat) x2.2)))))))))) (.ps 1000003 [.k [6] [10]] (.ret (.inr out)))) (by kernel_rfl)
def KT (a:List Int) (b:List Int) (i:Nat) (out:List Int):Option (List Int):=aI (fun (σ:Nat×List Int)=>vS a b σ.1 σ.2) FU (i,out)
theorem YV (a:List Int) (b:List Int) (i:Nat) (out:List Int):∀y:List Int,KT a b i out=some y→Runs Tryz.prog (.loop (nav [1,1,1,0,1,0,0] (ah Tryz.f210))) (I4 a b i out) ((.exit 0)) ((fun (y:List Int)=>Hl a b y) y):=
 bf (head:=fun (σ:Nat×List Int)=>I4 a b σ.1 σ.2) (eo:=fun (_:List Int)=>(.exit 0)) (so:=fun (y:List Int)=>Hl a b y) (Zq a b) (fun _ h=>by cases h) FU (i,out)
def OO (a:List Int) (b:List Int):Option (List Int):=
 bif inK .i64 ((mxI ((a.length:Nat):Int) ((b.length:Nat):Int))+1) then
 bif decide (0≤(mxI ((a.length:Nat):Int) ((b.length:Nat):Int))+1) then
 bif decide (((mxI ((a.length:Nat):Int) ((b.length:Nat):Int))+1).toNat≤2147483648) then
 (KT a b 0 (List.replicate (((mxI ((a.length:Nat):Int) ((b.length:Nat):Int))+1).toNat) 0)).bind fun x0=>
 (iF x0).bind fun x1=>
 some x1
 else none
 else none
 else none
theorem U0 (a:List Int) (b:List Int):∀r,OO a b=some r→aj Tryz.prog 210 0 [SL (cI .u32) a,SL (cI .u32) b] [] (SL (cI .u32) r) []:=
 au (enc:=fun r=>SL (cI .u32) r) (aQ:=fun r=>[]) 10 (.op 10002 (.ln (cI .u32) a) (.op 10006 (.ln (cI .u32) b) (.op 20004 (.mk (cI .u32) 0 .dn) (.ps 1000001 [.k [0,1,5,6,16,17] [10]] (.lp1 0 (YV a b 0 (List.replicate (((mxI ((a.length:Nat):Int) ((b.length:Nat):Int))+1).toNat) 0)) fun x0=>.call [] [] (iw x0) .no fun x1=>.ret x1))))) Tryz.func210 (by kernel_rfl) (by kernel_rfl) (by kernel_rfl)
def jD (neg:Bool) (mag:List Int):Option Whole:=
 (iF mag).bind fun x0=>
 bif neg then
 some (Whole.mk (decide (((x0.length:Nat):Int)>0)) x0)
 else
 some (Whole.mk false x0)
theorem kX (neg:Bool) (mag:List Int):∀r,jD neg mag=some r→aj Tryz.prog 209 0 [B neg,SL (cI .u32) mag] [] (AG Whole.D r) []:=
 au (enc:=fun r=>AG Whole.D r) (aQ:=fun r=>[]) 10 (.call [] [] (iw mag) .no fun x0=>.br 20004 (.op 20006 (.ln (cI .u32) x0) (.ret (Whole.mk (decide (((x0.length:Nat):Int)>0)) x0))) (.ret (Whole.mk false x0))) Tryz.func209 (by kernel_rfl) (by kernel_rfl) (by kernel_rfl)
def KL (n:Int):Option Whole:=
 bif decide (n<0) then
 bif inK .i64 (n+1) then
 bif inK .i64 (0-(n+1)) then
 (tY (IntKind.wrap .u64 (0-(n+1)))).bind fun x0=>
 (tY 1).bind fun x1=>
 (OO x0 x1).bind fun x2=>
 (jD true x2).bind fun x3=>
 some x3
 else none
 else none
 else
 (tY (IntKind.wrap .u64 n)).bind fun x0=>
 (jD false x0).bind fun x1=>
 some x1
theorem aa8 (n:Int):∀r,KL n=some r→aj Tryz.prog 149 0 [I n] [] (AG Whole.D r) []:=
 au (enc:=fun r=>AG Whole.D r) (aQ:=fun r=>[]) 10 (.br 100000004 (.op 20006 .wr (.call [] [] (mO (IntKind.wrap .u64 (0-(n+1)))) .no fun x0=>.call [] [] (mO 1) .no fun x1=>.call [] [] (U0 x0 x1) .no fun x2=>.call [] [] (kX true x2) .no fun x3=>.ret x3)) (.op 30002 .wr (.call [] [] (mO (IntKind.wrap .u64 n)) .no fun x0=>.call [] [] (kX false x0) .no fun x1=>.ret x1))) Tryz.func149 (by kernel_rfl) (by kernel_rfl) (by kernel_rfl)
def J8 (a:Whole) (b:Whole):Option Whole:=
 (OO a.Mag b.Mag).bind fun x0=>
 (jD a.Neg x0).bind fun x1=>
 some x1
theorem Wl (a:Whole) (b:Whole):∀r,J8 a b=some r→aj Tryz.prog 214 0 [AG Whole.D a,AG Whole.D b] [] (AG Whole.D r) []:=
 au (enc:=fun r=>AG Whole.D r) (aQ:=fun r=>[]) 10 (.call [] [] (U0 a.Mag b.Mag) .no fun x0=>.call [] [] (kX a.Neg x0) .no fun x1=>.ret x1) Tryz.func214 (by kernel_rfl) (by kernel_rfl) (by kernel_rfl)
def A8 (a:Whole) (b:Whole):Option Whole:=
 (Lm a.Mag b.Mag).bind fun x0=>
 bif x0.2 then
 (jD a.Neg x0.1).bind fun x1=>
 some x1
 else
 (Lm b.Mag a.Mag).bind fun x1=>
 (jD b.Neg x1.1).bind fun x2=>
 some x2
theorem TK (a:Whole) (b:Whole):∀r,A8 a b=some r→aj Tryz.prog 213 0 [AG Whole.D a,AG Whole.D b] [] (AG Whole.D r) []:=
 au (enc:=fun r=>AG Whole.D r) (aQ:=fun r=>[]) 10 (.call [] [] (NV a.Mag b.Mag) .no fun x0=>.br 100000017 (.call [] [] (kX a.Neg x0.1) .no fun x1=>.ret x1) (.call [] [] (NV b.Mag a.Mag) .no fun x1=>.call [] [] (kX b.Neg x1.1) .no fun x2=>.ret x2)) Tryz.func213 (by kernel_rfl) (by kernel_rfl) (by kernel_rfl)
def CO (a:Whole) (b:Whole):Option Whole:=
 bif a.Neg==b.Neg then
 (J8 a b).bind fun x0=>
 some x0
 else
 (A8 a b).bind fun x0=>
 some x0
theorem YH (a:Whole) (b:Whole):∀r,CO a b=some r→aj Tryz.prog 153 0 [AG Whole.D a,AG Whole.D b] [] (AG Whole.D r) []:=
 au (enc:=fun r=>AG Whole.D r) (aQ:=fun r=>[]) 10 (.br 100000011 (.call [] [] (Wl a b) .no fun x0=>.ret x0) (.call [] [] (TK a b) .no fun x0=>.ret x0)) Tryz.func153 (by kernel_rfl) (by kernel_rfl) (by kernel_rfl)
def yA (a:Whole) (b:Whole):Option Whole:=
 (oZ a.Mag b.Mag).bind fun x0=>
 (jD (!(a.Neg==b.Neg)) x0).bind fun x1=>
 some x1
theorem Bz (a:Whole) (b:Whole):∀r,yA a b=some r→aj Tryz.prog 154 0 [AG Whole.D a,AG Whole.D b] [] (AG Whole.D r) []:=
 au (enc:=fun r=>AG Whole.D r) (aQ:=fun r=>[]) 10 (.call [] [] (rF a.Mag b.Mag) .no fun x0=>.call [] [] (kX (!(a.Neg==b.Neg)) x0) .no fun x1=>.ret x1) Tryz.func154 (by kernel_rfl) (by kernel_rfl) (by kernel_rfl)
def cu (neg:Bool) (n:List Int) (d:List Int):Option Rat:=
 (yR n d).bind fun x0=>
 bif !x0.2.2 then
 (tY 1).bind fun x1=>
 some (Rat.mk false [] x1)
 else
 bif ((x0.1.length:Nat):Int)==0 then
 (tY 1).bind fun x1=>
 some (Rat.mk false [] x1)
 else
 some (Rat.mk neg x0.1 x0.2.1)
theorem bK (neg:Bool) (n:List Int) (d:List Int):∀r,cu neg n d=some r→aj Tryz.prog 150 0 [B neg,SL (cI .u32) n,SL (cI .u32) d] [] (AG Rat.D r) []:=
 au (enc:=fun r=>AG Rat.D r) (aQ:=fun r=>[]) 10 (.call [] [] (Qg n d) .no fun x0=>.br 20006 (.call [] [] (mO 1) .no fun x1=>.ps 1000003 [.b 10] (.ret (Rat.mk false [] x1))) (.op 20008 (.ln (cI .u32) x0.1) (.br 100000023 (.call [] [] (mO 1) .no fun x1=>.ps 1000003 [.b 10] (.ret (Rat.mk false [] x1))) (.ret (Rat.mk neg x0.1 x0.2.1))))) Tryz.func150 (by kernel_rfl) (by kernel_rfl) (by kernel_rfl)
def kZ (a:Rat):Option Rat:=
 (cu a.Neg a.Num a.Den).bind fun x0=>
 some x0
theorem gW (a:Rat):∀r,kZ a=some r→aj Tryz.prog 91 0 [AG Rat.D a] [] (AG Rat.D r) []:=
 au (enc:=fun r=>AG Rat.D r) (aQ:=fun r=>[]) 10 (.call [] [] (bK a.Neg a.Num a.Den) .no fun x0=>.ret x0) Tryz.func91 (by kernel_rfl) (by kernel_rfl) (by kernel_rfl)
def gJ (n:Int):Option Rat:=
 (KL n).bind fun x0=>
 (tY 1).bind fun x1=>
 (cu x0.Neg x0.Mag x1).bind fun x2=>
 some x2
theorem fE (n:Int):∀r,gJ n=some r→aj Tryz.prog 90 0 [I n] [] (AG Rat.D r) []:=
 au (enc:=fun r=>AG Rat.D r) (aQ:=fun r=>[]) 10 (.call [] [] (aa8 n) .no fun x0=>.call [] [] (mO 1) .no fun x1=>.call [] [] (bK x0.Neg x0.Mag x1) .no fun x2=>.ret x2) Tryz.func90 (by kernel_rfl) (by kernel_rfl) (by kernel_rfl)
def zF (a:Rat):Option Dy:=
 (kZ a).bind fun x0=>
 some (Dy.mk (I8.mk x0))
theorem zl (a:Rat):∀r,zF a=some r→aj Tryz.prog 152 0 [AG Rat.D a] [] (AG Dy.D r) []:=
 au (enc:=fun r=>AG Dy.D r) (aQ:=fun r=>[]) 10 (.call [] [] (gW a) .no fun x0=>.ret (Dy.mk (I8.mk x0))) Tryz.func152 (by kernel_rfl) (by kernel_rfl) (by kernel_rfl)
def fM (h:I8):Option Whole:=
 some (Whole.mk h.Rat.Neg h.Rat.Num)
theorem kL (h:I8):∀r,fM h=some r→aj Tryz.prog 155 0 [AG I8.D h] [] (AG Whole.D r) []:=
 au (enc:=fun r=>AG Whole.D r) (aQ:=fun r=>[]) 10 (.ret (Whole.mk h.Rat.Neg h.Rat.Num)) Tryz.func155 (by kernel_rfl) (by kernel_rfl) (by kernel_rfl)
def fP (h:I8):Option Whole:=
 some (Whole.mk false h.Rat.Den)
theorem kK (h:I8):∀r,fP h=some r→aj Tryz.prog 156 0 [AG I8.D h] [] (AG Whole.D r) []:=
 au (enc:=fun r=>AG Whole.D r) (aQ:=fun r=>[]) 10 (.ret (Whole.mk false h.Rat.Den)) Tryz.func156 (by kernel_rfl) (by kernel_rfl) (by kernel_rfl)
def nM (a:Rat) (b:Rat):Option Rat:=
 (zF a).bind fun x0=>
 (zF b).bind fun x1=>
 (fM x0.halves).bind fun x2=>
 (fP x1.halves).bind fun x3=>
 (yA x2 x3).bind fun x4=>
 (fM x1.halves).bind fun x5=>
 (fP x0.halves).bind fun x6=>
 (yA x5 x6).bind fun x7=>
 (CO x4 x7).bind fun x8=>
 (oZ x0.halves.Rat.Den x1.halves.Rat.Den).bind fun x9=>
 (cu x8.Neg x8.Mag x9).bind fun x10=>
 some x10
theorem qN (a:Rat) (b:Rat):∀r,nM a b=some r→aj Tryz.prog 93 0 [AG Rat.D a,AG Rat.D b] [] (AG Rat.D r) []:=
 au (enc:=fun r=>AG Rat.D r) (aQ:=fun r=>[]) 10 (.call [] [] (zl a) .no fun x0=>.call [] [] (zl b) .no fun x1=>.call [] [] (kL x0.halves) .no fun x2=>.call [] [] (kK x1.halves) .no fun x3=>.call [] [] (Bz x2 x3) .no fun x4=>.call [] [] (kL x1.halves) .no fun x5=>.call [] [] (kK x0.halves) .no fun x6=>.call [] [] (Bz x5 x6) .no fun x7=>.call [] [] (YH x4 x7) .no fun x8=>.call [] [] (rF x0.halves.Rat.Den x1.halves.Rat.Den) .no fun x9=>.call [] [] (bK x8.Neg x8.Mag x9) .no fun x10=>.ret x10) Tryz.func93 (by kernel_rfl) (by kernel_rfl) (by kernel_rfl)
def ji (a:Rat) (b:Rat):Option Rat:=
 (oZ a.Num b.Num).bind fun x0=>
 (oZ a.Den b.Den).bind fun x1=>
 (cu (!(a.Neg==b.Neg)) x0 x1).bind fun x2=>
 some x2
theorem lQ (a:Rat) (b:Rat):∀r,ji a b=some r→aj Tryz.prog 94 0 [AG Rat.D a,AG Rat.D b] [] (AG Rat.D r) []:=
 au (enc:=fun r=>AG Rat.D r) (aQ:=fun r=>[]) 10 (.call [] [] (rF a.Num b.Num) .no fun x0=>.call [] [] (rF a.Den b.Den) .no fun x1=>.call [] [] (bK (!(a.Neg==b.Neg)) x0 x1) .no fun x2=>.ret x2) Tryz.func94 (by kernel_rfl) (by kernel_rfl) (by kernel_rfl)
def uQ (a:Rat):Option Rat:=
 (cu (!a.Neg) a.Num a.Den).bind fun x0=>
 some x0
theorem Ba (a:Rat):∀r,uQ a=some r→aj Tryz.prog 251 0 [AG Rat.D a] [] (AG Rat.D r) []:=
 au (enc:=fun r=>AG Rat.D r) (aQ:=fun r=>[]) 10 (.call [] [] (bK (!a.Neg) a.Num a.Den) .no fun x0=>.ret x0) Tryz.func251 (by kernel_rfl) (by kernel_rfl) (by kernel_rfl)
def Ce (a:Rat) (b:Rat):Option Rat:=
 (uQ b).bind fun x0=>
 (nM a x0).bind fun x1=>
 some x1
theorem Og (a:Rat) (b:Rat):∀r,Ce a b=some r→aj Tryz.prog 254 0 [AG Rat.D a,AG Rat.D b] [] (AG Rat.D r) []:=
 au (enc:=fun r=>AG Rat.D r) (aQ:=fun r=>[]) 10 (.call [] [] (Ba b) .no fun x0=>.call [] [] (qN a x0) .no fun x1=>.ret x1) Tryz.func254 (by kernel_rfl) (by kernel_rfl) (by kernel_rfl)
def Ie (n:Whole) (d:Whole):Option (Rat×Int):=
 (lF d.Mag).bind fun x0=>
 bif x0==0 then
 some (Rat.mk false [] [],3)
 else
 (cu (!(n.Neg==d.Neg)) n.Mag d.Mag).bind fun x1=>
 some (x1,0)
theorem Xe (n:Whole) (d:Whole):∀r,Ie n d=some r→aj Tryz.prog 291 0 [AG Whole.D n,AG Whole.D d] [] (.tup [AG Rat.D r.1,I r.2]) []:=
 au (enc:=fun r=>.tup [AG Rat.D r.1,I r.2]) (aQ:=fun r=>[]) 10 (.call [] [] (uH d.Mag) .no fun x0=>.br 100000009 (.ps 1000003 [.b 12] (.ret (Rat.mk false [] [],3))) (.call [] [] (bK (!(n.Neg==d.Neg)) n.Mag d.Mag) .no fun x1=>.ret (x1,0))) Tryz.func291 (by kernel_rfl) (by kernel_rfl) (by kernel_rfl)
def qU (a:Rat) (b:Rat):Option (Rat×Int):=
 (zF a).bind fun x0=>
 (zF b).bind fun x1=>
 (fM x0.halves).bind fun x2=>
 (fP x1.halves).bind fun x3=>
 (yA x2 x3).bind fun x4=>
 (fP x0.halves).bind fun x5=>
 (fM x1.halves).bind fun x6=>
 (yA x5 x6).bind fun x7=>
 (Ie x4 x7).bind fun x8=>
 some (x8.1,x8.2)
theorem BL (a:Rat) (b:Rat):∀r,qU a b=some r→aj Tryz.prog 250 0 [AG Rat.D a,AG Rat.D b] [] (.tup [AG Rat.D r.1,I r.2]) []:=
 au (enc:=fun r=>.tup [AG Rat.D r.1,I r.2]) (aQ:=fun r=>[]) 10 (.call [] [] (zl a) .no fun x0=>.call [] [] (zl b) .no fun x1=>.call [] [] (kL x0.halves) .no fun x2=>.call [] [] (kK x1.halves) .no fun x3=>.call [] [] (Bz x2 x3) .no fun x4=>.call [] [] (kK x0.halves) .no fun x5=>.call [] [] (kL x1.halves) .no fun x6=>.call [] [] (Bz x5 x6) .no fun x7=>.call [] [] (Xe x4 x7) .no fun x8=>.ret (x8.1,x8.2)) Tryz.func250 (by kernel_rfl) (by kernel_rfl) (by kernel_rfl)
def jS (tA:Rat) (a:Int):Option (Rat×Int):=
 (zF tA).bind fun x0=>
 bif decide (a<(-64)) then
 some (Rat.mk false [] [],4)
 else
 bif decide (a>64) then
 some (Rat.mk false [] [],4)
 else
 bif decide (a<0) then
 bif ((x0.halves.Rat.Num.length:Nat):Int)==0 then
 some (Rat.mk false [] [],3)
 else
 bif inK .i64 (0-a) then
 (nH x0.halves.Rat.Num (mxI a (0-a))).bind fun x1=>
 bif inK .i64 (0-a) then
 (nH x0.halves.Rat.Den (mxI a (0-a))).bind fun x2=>
 bif x0.halves.Rat.Neg then
 bif decide ((2:Int)≠0) then
 bif decide (a<0) then
 (cu ((Int.tmod a 2) != 0) x2.1 x1.1).bind fun x3=>
 some (x3,0)
 else
 (cu ((Int.tmod a 2) != 0) x1.1 x2.1).bind fun x3=>
 some (x3,0)
 else none
 else
 bif decide (a<0) then
 (cu false x2.1 x1.1).bind fun x3=>
 some (x3,0)
 else
 (cu false x1.1 x2.1).bind fun x3=>
 some (x3,0)
 else none
 else none
 else
 bif inK .i64 (0-a) then
 (nH x0.halves.Rat.Num (mxI a (0-a))).bind fun x1=>
 bif inK .i64 (0-a) then
 (nH x0.halves.Rat.Den (mxI a (0-a))).bind fun x2=>
 bif x0.halves.Rat.Neg then
 bif decide ((2:Int)≠0) then
 bif decide (a<0) then
 (cu ((Int.tmod a 2) != 0) x2.1 x1.1).bind fun x3=>
 some (x3,0)
 else
 (cu ((Int.tmod a 2) != 0) x1.1 x2.1).bind fun x3=>
 some (x3,0)
 else none
 else
 bif decide (a<0) then
 (cu false x2.1 x1.1).bind fun x3=>
 some (x3,0)
 else
 (cu false x1.1 x2.1).bind fun x3=>
 some (x3,0)
 else none
 else none
theorem AZ (tA:Rat) (a:Int):∀r,jS tA a=some r→aj Tryz.prog 252 0 [AG Rat.D tA,I a] [] (.tup [AG Rat.D r.1,I r.2]) []:=
 au (enc:=fun r=>.tup [AG Rat.D r.1,I r.2]) (aQ:=fun r=>[]) 10 (.call [] [] (zl tA) .no fun x0=>.br 20006 (.ps 1000003 [.b 11] (.ret (Rat.mk false [] [],4))) (.br 100000014 (.ps 1000003 [.b 11] (.ret (Rat.mk false [] [],4))) (.br 40006 (.op 40014 (.ln (cI .u32) x0.halves.Rat.Num) (.br 100000022 (.ps 1000003 [.b 11] (.ret (Rat.mk false [] [],3))) (.call [] [] (vW x0.halves.Rat.Num (mxI a (0-a))) .no fun x1=>.call [] [] (vW x0.halves.Rat.Den (mxI a (0-a))) .no fun x2=>.br 80010 (.op 80012 .wr (.br 100000068 (.call [] [] (bK ((Int.tmod a 2) != 0) x2.1 x1.1) .no fun x3=>.ret (x3,0)) (.call [] [] (bK ((Int.tmod a 2) != 0) x1.1 x2.1) .no fun x3=>.ret (x3,0)))) (.br 100000068 (.call [] [] (bK false x2.1 x1.1) .no fun x3=>.ret (x3,0)) (.call [] [] (bK false x1.1 x2.1) .no fun x3=>.ret (x3,0)))))) (.call [] [] (vW x0.halves.Rat.Num (mxI a (0-a))) .no fun x1=>.call [] [] (vW x0.halves.Rat.Den (mxI a (0-a))) .no fun x2=>.br 80010 (.op 80012 .wr (.br 100000068 (.call [] [] (bK ((Int.tmod a 2) != 0) x2.1 x1.1) .no fun x3=>.ret (x3,0)) (.call [] [] (bK ((Int.tmod a 2) != 0) x1.1 x2.1) .no fun x3=>.ret (x3,0)))) (.br 100000068 (.call [] [] (bK false x2.1 x1.1) .no fun x3=>.ret (x3,0)) (.call [] [] (bK false x1.1 x2.1) .no fun x3=>.ret (x3,0))))))) Tryz.func252 (by kernel_rfl) (by kernel_rfl) (by kernel_rfl)
end Go.Ab.M
