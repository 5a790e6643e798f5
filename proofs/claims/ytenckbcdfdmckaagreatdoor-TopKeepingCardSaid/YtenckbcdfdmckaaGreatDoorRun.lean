/-
  TopKeeping: its run, in parts. (Printed by runlaw.py.)
-/
import Derived.Test.YtenckbcdfdmckaaGreatDoorTopD
set_option linter.unusedSimpArgs false
set_option linter.unusedVariables false
namespace Go.Top
open Go Go.Eng
set_option maxRecDepth 100000
def I (n : Nat) : CT := .int .i64 (.ofNat n)
def J (n : Nat) : CV := .int .i64 (.ofNat n)
def U (n : Nat) : CV := .int .u32 (.ofNat n)
def W (n : Nat) : CT := .int .u32 (.ofNat n)
def kl0 : List (List CT) := [[I 2, I 0, .str 0 0, .str 0 0, I 0], [I 0, I 0, .str 0 0, .str 0 0, I 0], [I 0, I 0, .str 0 0, .str 0 0, I 0], [I 0, I 0, .str 0 0, .str 0 0, I 0], [I 0, I 0, .str 0 0, .str 0 0, I 0], [I 0, I 0, .str 0 0, .str 0 0, I 0], [I 0, I 0, .str 0 0, .str 0 0, I 0], [I 0, I 0, .str 0 0, .str 0 0, I 0]]
def kl1 : List (List CT) := [[I 0, I 0, W 0, W 0, W 0, W 0], [I 0, I 0, W 0, W 0, W 0, W 0], [I 0, I 0, W 0, W 0, W 0, W 0], [I 0, I 0, W 0, W 0, W 0, W 0]]
def kv2 : CV := .str 256 0x25d000100000002
def kl3 : List (List CT) := [[I 14, I 1, W 0x25d0003, W 0x94e300bf, W 0x9c601820, W 0x3c221020], [I 0, I 0, W 0, W 0, W 0, W 0], [I 0, I 0, W 0, W 0, W 0, W 0], [I 0, I 0, W 0, W 0, W 0, W 0], [I 0, I 0, W 0, W 0, W 0, W 0], [I 0, I 0, W 0, W 0, W 0, W 0], [I 0, I 0, W 0, W 0, W 0, W 0], [I 0, I 0, W 0, W 0, W 0, W 0]]
def kv4 : CV := .str 176 0x2010223c2018609cbf00e39403005d02010000000e00
def kv5 : CV := .str 256 0x2010223c2018609cbf00e39403005d02010000000e00b0000100000003
def kl6 : List (List CT) := [[I 15, I 1, W 0x2a736f15, W 0xbcd5f5b9, W 0xd4a6cef9, W 0xbd451ebd]]
def kv7 : CV := .str 22 0xbd1e45bdf9cea6d4b9f5d5bc156f732a010000000f00
def kv8 : CV := .str 29 0xbd1e45bdf9cea6d4b9f5d5bc156f732a010000000f0000000001010001
def kv9 : CV := .str 256 0xbd1e45bdf9cea6d4b9f5d5bc156f732a010000000f00000000010100011d000100000004
def kv10 : CV := .str 256 0x1f20000100000005
def kl11 : List (List CT) := [[I 16, I 1, W 0x9770367c, W 0x25659d11, W 0xe1c08a78, W 0x9021ca78], [I 17, I 1, W 0x1f200006, W 0xa8e0017f, W 0x1c003080, W 0xb4042860], [I 0, I 0, W 0, W 0, W 0, W 0]]
def kv12 : CV := .str 66 0x602804b48030001c7f01e0a80600201f01000000110078ca2190788ac0e1119d65257c367097010000001000
def kv13 : CV := .str 82 0x602804b48030001c7f01e0a80600201f01000000110078ca2190788ac0e1119d65257c367097010000001000070000000200000001000000
def kv14 : CV := .str 256 0x602804b48030001c7f01e0a80600201f01000000110078ca2190788ac0e1119d65257c36709701000000100007000000020000000100000052000100000006
def kl15 : List (List CT) := [[I 18, I 1, W 0xc18b8899, W 0xcfba61f9, W 0x751fce33, W 0xde7fedc4]]
def kv16 : CV := .str 22 0xc4ed7fde33ce1f75f961bacf99888bc1010000001200
def kv17 : CV := .str 256 0xe0bea2635ce2f7c0c229d1ef96e7a59ec4ed7fde33ce1f75f961bacf99888bc1010000001200010700000001000000ab
def ks18 : CT := .str 256 0xb7023c000b023c005f013c00b3003c003c0007000000ac
def ks19 : CT := .str 256 0xe0bea2635ce2f7c0c229d1ef96e7a59ec4ed7fde33ce1f75f961bacf99888bc1010000001200010700000001000000ab
def ks20 : CT := .str 256 0x25d000100000002
def ks21 : CT := .str 256 0x2010223c2018609cbf00e39403005d02010000000e00b0000100000003
def ks22 : CT := .str 256 0xbd1e45bdf9cea6d4b9f5d5bc156f732a010000000f00000000010100011d000100000004
def ks23 : CT := .str 256 0x1f20000100000005
def ks24 : CT := .str 256 0x602804b48030001c7f01e0a80600201f01000000110078ca2190788ac0e1119d65257c36709701000000100007000000020000000100000052000100000006
def kl25 : List (List CT) := [[ks18], [.str 256 0], [ks19], [.str 256 0], [.str 256 0], [.str 256 0], [.str 256 0], [ks18], [.str 256 0], [ks19], [.str 256 0], [.str 256 0], [.str 256 0], [.str 256 0], [ks20], [ks21], [ks22], [ks23], [ks24], [.str 256 0], [.str 256 0], [.str 256 0], [.str 256 0], [.str 256 0], [.str 256 0], [.str 256 0], [.str 256 0], [.str 256 0], [.str 256 0], [.str 256 0], [.str 256 0], [.str 256 0], [.str 256 0], [.str 256 0], [.str 256 0], [.str 256 0], [.str 256 0], [.str 256 0], [.str 256 0], [.str 256 0], [.str 256 0], [.str 256 0], [.str 256 0], [.str 256 0], [.str 256 0], [.str 256 0], [.str 256 0], [.str 256 0], [.str 256 0], [.str 256 0], [.str 256 0], [.str 256 0], [.str 256 0], [.str 256 0], [.str 256 0], [.str 256 0], [.str 256 0], [.str 256 0], [.str 256 0], [.str 256 0], [.str 256 0], [.str 256 0], [.str 256 0], [.str 256 0], [.str 256 0], [.str 256 0], [.str 256 0], [.str 256 0], [.str 256 0], [.str 256 0], [.str 256 0], [.str 256 0], [.str 256 0], [.str 256 0], [ks18], [.str 256 0], [ks19], [.str 256 0], [.str 256 0], [.str 256 0], [.str 256 0], [ks18], [.str 256 0], [ks19], [.str 256 0], [.str 256 0], [.str 256 0], [.str 256 0]]
def kl26 : List (List CT) := [[I 2, I 0, .str 0 0, .str 0 0, I 0], [I 1, I 0, .str 1 97, .str 0 0, I 0], [I 0, I 0, .str 0 0, .str 0 0, I 0], [I 0, I 0, .str 0 0, .str 0 0, I 0], [I 0, I 0, .str 0 0, .str 0 0, I 0], [I 0, I 0, .str 0 0, .str 0 0, I 0], [I 0, I 0, .str 0 0, .str 0 0, I 0], [I 0, I 0, .str 0 0, .str 0 0, I 0]]
def kl27 : List (List CT) := [[I 2, I 0, .str 0 0, .str 0 0, I 0], [I 1, I 0, .str 1 97, .str 2 26984, I 0], [I 0, I 0, .str 0 0, .str 0 0, I 0], [I 0, I 0, .str 0 0, .str 0 0, I 0], [I 0, I 0, .str 0 0, .str 0 0, I 0], [I 0, I 0, .str 0 0, .str 0 0, I 0], [I 0, I 0, .str 0 0, .str 0 0, I 0], [I 0, I 0, .str 0 0, .str 0 0, I 0]]
def kv28 : CV := .str 70 0x602804b48030001c7f01e0a80600201f01000000110078ca2190788ac0e1119d65257c367097010000001000
def kv29 : CV := .str 256 0x696820000200000001
def kl30 : List (List CT) := [[I 19, I 2, W 0x6820006c, W 0x9fe01a2c, W 0xfc0338e9, W 0x5444c8c0], [I 0, I 0, W 0, W 0, W 0, W 0], [I 0, I 0, W 0, W 0, W 0, W 0], [I 0, I 0, W 0, W 0, W 0, W 0]]
def kv31 : CV := .str 88 0xc0c84454e93803fc2c1ae09f6c002068020000001300
def kv32 : CV := .str 94 0xc0c84454e93803fc2c1ae09f6c002068020000001300020061010001
def kv33 : CV := .str 256 0xc0c84454e93803fc2c1ae09f6c0020680200000013000200610100015e000200000002
def kl34 : List (List CT) := [[I 14, I 1, W 0x25d0003, W 0x94e300bf, W 0x9c601820, W 0x3c221020], [I 20, I 2, W 0x5b161c4d, W 0xc49aa523, W 0x56357f75, W 0x4635cb55], [I 0, I 0, W 0, W 0, W 0, W 0], [I 0, I 0, W 0, W 0, W 0, W 0], [I 0, I 0, W 0, W 0, W 0, W 0], [I 0, I 0, W 0, W 0, W 0, W 0], [I 0, I 0, W 0, W 0, W 0, W 0], [I 0, I 0, W 0, W 0, W 0, W 0]]
def kv35 : CV := .str 176 0x55cb3546757f355623a59ac44d1c165b0200000014002010223c2018609cbf00e39403005d02010000000e00
def kv36 : CV := .str 256 0x55cb3546757f355623a59ac44d1c165b0200000014002010223c2018609cbf00e39403005d02010000000e00b0000200000003
def kl37 : List (List CT) := [[I 21, I 2, W 0xe6c57b30, W 0xa99089eb, W 0xeb814e10, W 0xf7238ee0]]
def kv38 : CV := .str 22 0xe08e23f7104e81ebeb8990a9307bc5e6020000001500
def kv39 : CV := .str 29 0xe08e23f7104e81ebeb8990a9307bc5e602000000150000000001010001
def kv40 : CV := .str 256 0xe08e23f7104e81ebeb8990a9307bc5e6020000001500000000010100011d000200000004
def kv41 : CV := .str 32 0x1e00000000000007e1
def kv42 : CV := .str 256 0x1e00000000000007e120000200000005
def kl43 : List (List CT) := [[I 22, I 2, W 0x24fffd77, W 0x9a56d25, W 0xec520d4e, W 0x19c28e07], [I 23, I 2, W 0xff20000e, W 0x8ce00370, W 0x76006dc7, W 0x96094640], [I 0, I 0, W 0, W 0, W 0, W 0]]
def kv44 : CV := .str 66 0x40460996c76d00767003e08c0e0020ff020000001700078ec2194e0d52ec256da50977fdff24020000001600
def kv45 : CV := .str 82 0x40460996c76d00767003e08c0e0020ff020000001700078ec2194e0d52ec256da50977fdff24020000001600070000000200000002000000
def kv46 : CV := .str 256 0x40460996c76d00767003e08c0e0020ff020000001700078ec2194e0d52ec256da50977fdff2402000000160007000000020000000200000052000200000006
def kl47 : List (List CT) := [[I 24, I 2, W 0xa0b4ea1a, W 0xfcd9e230, W 0xc147f66d, W 0xa0816dc0]]
def kv48 : CV := .str 22 0xc06d81a06df647c130e2d9fc1aeab4a0020000001800
def kv49 : CV := .str 256 0x54037a01e2c5cc522683ad34b15a3194c06d81a06df647c130e2d9fc1aeab4a0020000001800020700000002000000ab
def ks50 : CT := .str 256 0x54037a01e2c5cc522683ad34b15a3194c06d81a06df647c130e2d9fc1aeab4a0020000001800020700000002000000ab
def ks51 : CT := .str 256 0x696820000200000001
def ks52 : CT := .str 256 0xc0c84454e93803fc2c1ae09f6c0020680200000013000200610100015e000200000002
def ks53 : CT := .str 256 0x55cb3546757f355623a59ac44d1c165b0200000014002010223c2018609cbf00e39403005d02010000000e00b0000200000003
def ks54 : CT := .str 256 0xe08e23f7104e81ebeb8990a9307bc5e6020000001500000000010100011d000200000004
def ks55 : CT := .str 256 0x1e00000000000007e120000200000005
def ks56 : CT := .str 256 0x40460996c76d00767003e08c0e0020ff020000001700078ec2194e0d52ec256da50977fdff2402000000160007000000020000000200000052000200000006
def kl57 : List (List CT) := [[ks18], [.str 256 0], [ks19], [ks50], [.str 256 0], [.str 256 0], [.str 256 0], [ks18], [.str 256 0], [ks19], [ks50], [.str 256 0], [.str 256 0], [.str 256 0], [ks20], [ks21], [ks22], [ks23], [ks24], [ks51], [ks52], [ks53], [ks54], [ks55], [ks56], [.str 256 0], [.str 256 0], [.str 256 0], [.str 256 0], [.str 256 0], [.str 256 0], [.str 256 0], [.str 256 0], [.str 256 0], [.str 256 0], [.str 256 0], [.str 256 0], [.str 256 0], [.str 256 0], [.str 256 0], [.str 256 0], [.str 256 0], [.str 256 0], [.str 256 0], [.str 256 0], [.str 256 0], [.str 256 0], [.str 256 0], [.str 256 0], [.str 256 0], [.str 256 0], [.str 256 0], [.str 256 0], [.str 256 0], [.str 256 0], [.str 256 0], [.str 256 0], [.str 256 0], [.str 256 0], [.str 256 0], [.str 256 0], [.str 256 0], [.str 256 0], [.str 256 0], [.str 256 0], [.str 256 0], [.str 256 0], [.str 256 0], [.str 256 0], [.str 256 0], [.str 256 0], [.str 256 0], [.str 256 0], [.str 256 0], [ks18], [.str 256 0], [ks19], [ks50], [.str 256 0], [.str 256 0], [.str 256 0], [ks18], [.str 256 0], [ks19], [ks50], [.str 256 0], [.str 256 0], [.str 256 0]]
def kv58 : CV := .str 246 0xe0bea2635ce2f7c0c229d1ef96e7a59ec4ed7fde33ce1f75f961bacf99888bc1010000001200
def kv59 : CV := .str 224 0xe0bea2635ce2f7c0c229d1ef96e7a59e
def kv60 : CV := .str 246 0x54037a01e2c5cc522683ad34b15a3194c06d81a06df647c130e2d9fc1aeab4a0020000001800
def kv61 : CV := .str 224 0x54037a01e2c5cc522683ad34b15a3194
def kv62 : CV := .str 70 0x40460996c76d00767003e08c0e0020ff020000001700078ec2194e0d52ec256da50977fdff24020000001600
def kv63 : CV := .str 256 0x1f28000100000005
def kl64 : List (List CT) := [[I 16, I 1, W 0x9770367c, W 0x25659d11, W 0xe1c08a78, W 0x9021ca78], [I 17, I 1, W 0x1f280006, W 0xaad8017f, W 0x5b003080, W 0x9042860], [I 0, I 0, W 0, W 0, W 0, W 0]]
def kv65 : CV := .str 66 0x602804098030005b7f01d8aa0600281f01000000110078ca2190788ac0e1119d65257c367097010000001000
def kv66 : CV := .str 82 0x602804098030005b7f01d8aa0600281f01000000110078ca2190788ac0e1119d65257c367097010000001000070000000200000001000000
def kv67 : CV := .str 256 0x602804098030005b7f01d8aa0600281f01000000110078ca2190788ac0e1119d65257c36709701000000100007000000020000000100000052000100000006
def kl68 : List (List CT) := [[I 18, I 1, W 0x578b8899, W 0x5eba6201, W 0xe21fcfd3, W 0x888018d4]]
def kv69 : CV := .str 22 0xd4188088d3cf1fe20162ba5e99888b57010000001200
def kv70 : CV := .str 256 0x8cb4db4283dd2be04b280157d2e7d255d4188088d3cf1fe20162ba5e99888b57010000001200010700000001000000ab
def ks71 : CT := .str 256 0xb70250000b0250005f015000b3005000500007000000ac
def ks72 : CT := .str 256 0x8cb4db4283dd2be04b280157d2e7d255d4188088d3cf1fe20162ba5e99888b57010000001200010700000001000000ab
def ks73 : CT := .str 256 0x1f28000100000005
def ks74 : CT := .str 256 0x602804098030005b7f01d8aa0600281f01000000110078ca2190788ac0e1119d65257c36709701000000100007000000020000000100000052000100000006
def kl75 : List (List CT) := [[ks71], [.str 256 0], [ks72], [.str 256 0], [.str 256 0], [.str 256 0], [.str 256 0], [ks71], [.str 256 0], [ks72], [.str 256 0], [.str 256 0], [.str 256 0], [.str 256 0], [ks20], [ks21], [ks22], [ks73], [ks74], [.str 256 0], [.str 256 0], [.str 256 0], [.str 256 0], [.str 256 0], [.str 256 0], [.str 256 0], [.str 256 0], [.str 256 0], [.str 256 0], [.str 256 0], [.str 256 0], [.str 256 0], [.str 256 0], [.str 256 0], [.str 256 0], [.str 256 0], [.str 256 0], [.str 256 0], [.str 256 0], [.str 256 0], [.str 256 0], [.str 256 0], [.str 256 0], [.str 256 0], [.str 256 0], [.str 256 0], [.str 256 0], [.str 256 0], [.str 256 0], [.str 256 0], [.str 256 0], [.str 256 0], [.str 256 0], [.str 256 0], [.str 256 0], [.str 256 0], [.str 256 0], [.str 256 0], [.str 256 0], [.str 256 0], [.str 256 0], [.str 256 0], [.str 256 0], [.str 256 0], [.str 256 0], [.str 256 0], [.str 256 0], [.str 256 0], [.str 256 0], [.str 256 0], [.str 256 0], [.str 256 0], [.str 256 0], [.str 256 0], [.str 256 0], [.str 256 0], [.str 256 0], [.str 256 0], [.str 256 0], [.str 256 0], [.str 256 0], [.str 256 0], [.str 256 0], [.str 256 0], [.str 256 0], [.str 256 0], [.str 256 0], [.str 256 0], [.str 256 0], [.str 256 0], [.str 256 0], [.str 256 0], [.str 256 0], [.str 256 0], [ks71], [.str 256 0], [ks72], [.str 256 0], [.str 256 0], [.str 256 0], [.str 256 0], [ks71], [.str 256 0], [ks72], [.str 256 0], [.str 256 0], [.str 256 0], [.str 256 0]]
def kl76 : List (List CT) := [[I 2, I 0, .str 0 0, .str 0 0, I 0], [I 1, I 0, .str 1 97, .str 3 0x646c6f, I 0], [I 0, I 0, .str 0 0, .str 0 0, I 0], [I 0, I 0, .str 0 0, .str 0 0, I 0], [I 0, I 0, .str 0 0, .str 0 0, I 0], [I 0, I 0, .str 0 0, .str 0 0, I 0], [I 0, I 0, .str 0 0, .str 0 0, I 0], [I 0, I 0, .str 0 0, .str 0 0, I 0]]
def kv77 : CV := .str 70 0x602804098030005b7f01d8aa0600281f01000000110078ca2190788ac0e1119d65257c367097010000001000
def kv78 : CV := .str 256 0x646c6f20000200000001
def kl79 : List (List CT) := [[I 19, I 2, W 0x6f20646f, W 0x58f852e6, W 0x1efe33cc, W 0xf3d9b100], [I 0, I 0, W 0, W 0, W 0, W 0], [I 0, I 0, W 0, W 0, W 0, W 0], [I 0, I 0, W 0, W 0, W 0, W 0]]
def kv80 : CV := .str 88 0xb1d9f3cc33fe1ee652f8586f64206f020000001300
def kv81 : CV := .str 94 0xb1d9f3cc33fe1ee652f8586f64206f020000001300030061010001
def kv82 : CV := .str 256 0xb1d9f3cc33fe1ee652f8586f64206f0200000013000300610100015e000200000002
def kl83 : List (List CT) := [[I 14, I 1, W 0x25d0003, W 0x94e300bf, W 0x9c601820, W 0x3c221020], [I 20, I 2, W 0xdbf69df6, W 0x21189a4b, W 0xee5d1fe3, W 0xeefa6cb], [I 0, I 0, W 0, W 0, W 0, W 0], [I 0, I 0, W 0, W 0, W 0, W 0], [I 0, I 0, W 0, W 0, W 0, W 0], [I 0, I 0, W 0, W 0, W 0, W 0], [I 0, I 0, W 0, W 0, W 0, W 0], [I 0, I 0, W 0, W 0, W 0, W 0]]
def kv84 : CV := .str 176 0xcba6ef0ee31f5dee4b9a1821f69df6db0200000014002010223c2018609cbf00e39403005d02010000000e00
def kv85 : CV := .str 256 0xcba6ef0ee31f5dee4b9a1821f69df6db0200000014002010223c2018609cbf00e39403005d02010000000e00b0000200000003
def kl86 : List (List CT) := [[I 21, I 2, W 0x257a6d70, W 0x780bcdaf, W 0xd22ad342, W 0x7d871db0]]
def kv87 : CV := .str 22 0xb01d877d42d32ad2afcd0b78706d7a25020000001500
def kv88 : CV := .str 29 0xb01d877d42d32ad2afcd0b78706d7a2502000000150000000001010001
def kv89 : CV := .str 256 0xb01d877d42d32ad2afcd0b78706d7a25020000001500000000010100011d000200000004
def kv90 : CV := .str 40 0x1e000000000000000007e1
def kv91 : CV := .str 256 0x1e000000000000000007e128000200000005
def kl92 : List (List CT) := [[I 22, I 2, W 0x2b4938f2, W 0xe48b2b4f, W 0xfd032960, W 0x5f28fa80], [I 23, I 2, W 0xe1281e0e, W 0x68df0b70, W 0x1bd6e1c7, W 0x5a594e40], [I 0, I 0, W 0, W 0, W 0, W 0]]
def kv93 : CV := .str 66 0x404e595ac7e1d61b700bdf680e1e28e102000000170080fa285f602903fd4f2b8be4f238492b020000001600
def kv94 : CV := .str 82 0x404e595ac7e1d61b700bdf680e1e28e102000000170080fa285f602903fd4f2b8be4f238492b020000001600070000000200000002000000
def kv95 : CV := .str 256 0x404e595ac7e1d61b700bdf680e1e28e102000000170080fa285f602903fd4f2b8be4f238492b02000000160007000000020000000200000052000200000006
def kl96 : List (List CT) := [[I 24, I 2, W 0x46fdc777, W 0x3cdb59b0, W 0x9c13f32d, W 0x893343a5]]
def kv97 : CV := .str 22 0xa54333892df3139cb059db3c77c7fd46020000001800
def kv98 : CV := .str 256 0x219e322258b907151df3568b5b225815a54333892df3139cb059db3c77c7fd46020000001800020700000002000000ab
def kv99 : CV := .str 70 0x404e595ac7e1d61b700bdf680e1e28e102000000170080fa285f602903fd4f2b8be4f238492b020000001600
def kv100 : CV := .str 256 0xb01d877d42d32ad2afcd0b78706d7a25020000001500000000010100011d000300000004
def kl101 : List (List CT) := [[I 14, I 15], [I 19, I 22], [I 25, I 28]]
def kl102 : List (List CT) := [[I 15, I 19], [I 22, I 25], [I 28, I 94]]
def kv103 : CV := .str 40 0x7e10000000000000000001e00000000000000000700000000000000000038e1
def kv104 : CV := .str 256 0x7e10000000000000000001e00000000000000000700000000000000000038e128000300000005
def kl105 : List (List CT) := [[I 25, I 3, W 0x2b4938f3, W 0xe48b2b8e, W 0xfd033140, W 0x5f29a520], [I 26, I 3, W 0xff36e140, W 0x382d668d, W 0xfe716f78, W 0xffd5e3a0], [I 24, I 2, W 0x46fdc777, W 0x3cdb59b0, W 0x9c13f32d, W 0x893343a5]]
def kv106 : CV := .str 66 0xa54333892df3139cb059db3c77c7fd46020000001800a0e3d5ff786f71fe8d662d3840e136ff030000001a0020a5295f403103fd8e2b8be4f338492b030000001900
def kv107 : CV := .str 82 0x2000000a54333892df3139cb059db3c77c7fd46020000001800a0e3d5ff786f71fe8d662d3840e136ff030000001a0020a5295f403103fd8e2b8be4f338492b030000001900070000000200000003000000
def kv108 : CV := .str 256 0x2000000a54333892df3139cb059db3c77c7fd46020000001800a0e3d5ff786f71fe8d662d3840e136ff030000001a0020a5295f403103fd8e2b8be4f338492b03000000190007000000020000000300000052000300000006
def kl109 : List (List CT) := [[I 27, I 3, W 0xc884b0c4, W 0xdb7b2616, W 0x5fd294f5, W 0x2774279e]]
def kv110 : CV := .str 22 0x9e277427f594d25f16267bdbc4b084c8030000001b00
def kv111 : CV := .str 256 0x7deec600295ab2162db7868fde4a938c9e277427f594d25f16267bdbc4b084c8030000001b00030700000003000000ab
def ks112 : CT := .str 256 0x219e322258b907151df3568b5b225815a54333892df3139cb059db3c77c7fd46020000001800020700000002000000ab
def ks113 : CT := .str 256 0x7deec600295ab2162db7868fde4a938c9e277427f594d25f16267bdbc4b084c8030000001b00030700000003000000ab
def ks114 : CT := .str 256 0x646c6f20000200000001
def ks115 : CT := .str 256 0xb1d9f3cc33fe1ee652f8586f64206f0200000013000300610100015e000200000002
def ks116 : CT := .str 256 0xcba6ef0ee31f5dee4b9a1821f69df6db0200000014002010223c2018609cbf00e39403005d02010000000e00b0000200000003
def ks117 : CT := .str 256 0xb01d877d42d32ad2afcd0b78706d7a25020000001500000000010100011d000200000004
def ks118 : CT := .str 256 0x1e000000000000000007e128000200000005
def ks119 : CT := .str 256 0x404e595ac7e1d61b700bdf680e1e28e102000000170080fa285f602903fd4f2b8be4f238492b02000000160007000000020000000200000052000200000006
def ks120 : CT := .str 256 0xb01d877d42d32ad2afcd0b78706d7a25020000001500000000010100011d000300000004
def ks121 : CT := .str 256 0x7e10000000000000000001e00000000000000000700000000000000000038e128000300000005
def ks122 : CT := .str 256 0x2000000a54333892df3139cb059db3c77c7fd46020000001800a0e3d5ff786f71fe8d662d3840e136ff030000001a0020a5295f403103fd8e2b8be4f338492b03000000190007000000020000000300000052000300000006
def kl123 : List (List CT) := [[ks71], [.str 256 0], [ks72], [ks112], [ks113], [.str 256 0], [.str 256 0], [ks71], [.str 256 0], [ks72], [ks112], [ks113], [.str 256 0], [.str 256 0], [ks20], [ks21], [ks22], [ks73], [ks74], [ks114], [ks115], [ks116], [ks117], [ks118], [ks119], [ks120], [ks121], [ks122], [.str 256 0], [.str 256 0], [.str 256 0], [.str 256 0], [.str 256 0], [.str 256 0], [.str 256 0], [.str 256 0], [.str 256 0], [.str 256 0], [.str 256 0], [.str 256 0], [.str 256 0], [.str 256 0], [.str 256 0], [.str 256 0], [.str 256 0], [.str 256 0], [.str 256 0], [.str 256 0], [.str 256 0], [.str 256 0], [.str 256 0], [.str 256 0], [.str 256 0], [.str 256 0], [.str 256 0], [.str 256 0], [.str 256 0], [.str 256 0], [.str 256 0], [.str 256 0], [.str 256 0], [.str 256 0], [.str 256 0], [.str 256 0], [.str 256 0], [.str 256 0], [.str 256 0], [.str 256 0], [.str 256 0], [.str 256 0], [.str 256 0], [.str 256 0], [.str 256 0], [.str 256 0], [.str 256 0], [.str 256 0], [.str 256 0], [.str 256 0], [.str 256 0], [.str 256 0], [.str 256 0], [.str 256 0], [.str 256 0], [.str 256 0], [.str 256 0], [.str 256 0], [.str 256 0], [.str 256 0], [.str 256 0], [.str 256 0], [.str 256 0], [.str 256 0], [.str 256 0], [.str 256 0], [ks71], [.str 256 0], [ks72], [ks112], [ks113], [.str 256 0], [.str 256 0], [ks71], [.str 256 0], [ks72], [ks112], [ks113], [.str 256 0], [.str 256 0]]
def kl124 : List (List CT) := [[I 2, I 0, .str 0 0, .str 0 0, I 0], [I 1, I 0, .str 1 97, .str 3 0x77656e, I 0], [I 0, I 0, .str 0 0, .str 0 0, I 0], [I 0, I 0, .str 0 0, .str 0 0, I 0], [I 0, I 0, .str 0 0, .str 0 0, I 0], [I 0, I 0, .str 0 0, .str 0 0, I 0], [I 0, I 0, .str 0 0, .str 0 0, I 0], [I 0, I 0, .str 0 0, .str 0 0, I 0]]
def kl125 : List (List CT) := [[I 1, I 1, I 0, I 0, .seq 5 kl124], [I 2, I 1, I 0, I 0, .seq 5 kl0]]
def kv126 : CV := .str 70 0x2000000a54333892df3139cb059db3c77c7fd46020000001800a0e3d5ff786f71fe8d662d3840e136ff030000001a0020a5295f403103fd8e2b8be4f338492b030000001900
def kv127 : CV := .str 30 0x7e10000000000000000001e00000000000000000700
def kv128 : CV := .str 20 0x7e10000000000000000001e
def kv129 : CV := .str 256 0x2010223c2018609cbf00e39403005d02010000000e00b0000400000003
def kl130 : List (List CT) := [[I 28, I 4, W 0x2a736f18, W 0xbcd5f676, W 0xd4a6e699, W 0xbd471e9d]]
def kv131 : CV := .str 22 0x9d1e47bd99e6a6d476f6d5bc186f732a040000001c00
def kv132 : CV := .str 29 0x9d1e47bd99e6a6d476f6d5bc186f732a040000001c0000000001020001
def kv133 : CV := .str 256 0x9d1e47bd99e6a6d476f6d5bc186f732a040000001c00000000010200011d000400000004
def kl134 : List (List CT) := [[I 14, I 15], [I 19, I 22], [I 25, I 32]]
def kl135 : List (List CT) := [[I 15, I 19], [I 22, I 25], [I 32, I 94]]
def kv136 : CV := .str 40 0x7e100000000000000000700000000000000000038e00000000000000003c001
def kv137 : CV := .str 256 0x7e100000000000000000700000000000000000038e00000000000000003c00128000400000005
def kl138 : List (List CT) := [[I 29, I 4, W 0xe789397f, W 0x1af84bce, W 0x8d7bbb18, W 0xa41b9a58], [I 30, I 4, W 0x168c4d0, W 0x57dec34b, W 0xe113d513, W 0xa2593d2b], [I 24, I 2, W 0x46fdc777, W 0x3cdb59b0, W 0x9c13f32d, W 0x893343a5]]
def kv139 : CV := .str 66 0xa54333892df3139cb059db3c77c7fd460200000018002b3d59a213d513e14bc3de57d0c46801040000001e00589a1ba418bb7b8dce4bf81a7f3989e7040000001d00
def kv140 : CV := .str 82 0x2000000a54333892df3139cb059db3c77c7fd460200000018002b3d59a213d513e14bc3de57d0c46801040000001e00589a1ba418bb7b8dce4bf81a7f3989e7040000001d00070000000300000004000000
def kv141 : CV := .str 256 0x2000000a54333892df3139cb059db3c77c7fd460200000018002b3d59a213d513e14bc3de57d0c46801040000001e00589a1ba418bb7b8dce4bf81a7f3989e7040000001d0007000000030000000400000052000400000006
def kl142 : List (List CT) := [[I 31, I 4, W 0x101677af, W 0xf2f5dc32, W 0x3a567fcc, W 0x7d16def4]]
def kv143 : CV := .str 22 0xf4de167dcc7f563a32dcf5f2af771610040000001f00
def kv144 : CV := .str 256 0x19f7cb2c8626312da51a50b26f7db1c6f4de167dcc7f563a32dcf5f2af771610040000001f00040700000004000000ab
def ks145 : CT := .str 256 0x19f7cb2c8626312da51a50b26f7db1c6f4de167dcc7f563a32dcf5f2af771610040000001f00040700000004000000ab
def ks146 : CT := .str 256 0x2010223c2018609cbf00e39403005d02010000000e00b0000400000003
def ks147 : CT := .str 256 0x9d1e47bd99e6a6d476f6d5bc186f732a040000001c00000000010200011d000400000004
def ks148 : CT := .str 256 0x7e100000000000000000700000000000000000038e00000000000000003c00128000400000005
def ks149 : CT := .str 256 0x2000000a54333892df3139cb059db3c77c7fd460200000018002b3d59a213d513e14bc3de57d0c46801040000001e00589a1ba418bb7b8dce4bf81a7f3989e7040000001d0007000000030000000400000052000400000006
def kl150 : List (List CT) := [[ks71], [.str 256 0], [ks72], [ks112], [ks113], [ks145], [.str 256 0], [ks71], [.str 256 0], [ks72], [ks112], [ks113], [ks145], [.str 256 0], [ks20], [ks21], [ks22], [ks73], [ks74], [ks114], [ks115], [ks116], [ks117], [ks118], [ks119], [ks120], [ks121], [ks122], [ks146], [ks147], [ks148], [ks149], [.str 256 0], [.str 256 0], [.str 256 0], [.str 256 0], [.str 256 0], [.str 256 0], [.str 256 0], [.str 256 0], [.str 256 0], [.str 256 0], [.str 256 0], [.str 256 0], [.str 256 0], [.str 256 0], [.str 256 0], [.str 256 0], [.str 256 0], [.str 256 0], [.str 256 0], [.str 256 0], [.str 256 0], [.str 256 0], [.str 256 0], [.str 256 0], [.str 256 0], [.str 256 0], [.str 256 0], [.str 256 0], [.str 256 0], [.str 256 0], [.str 256 0], [.str 256 0], [.str 256 0], [.str 256 0], [.str 256 0], [.str 256 0], [.str 256 0], [.str 256 0], [.str 256 0], [.str 256 0], [.str 256 0], [.str 256 0], [.str 256 0], [.str 256 0], [.str 256 0], [.str 256 0], [.str 256 0], [.str 256 0], [.str 256 0], [.str 256 0], [.str 256 0], [.str 256 0], [.str 256 0], [.str 256 0], [.str 256 0], [.str 256 0], [.str 256 0], [.str 256 0], [.str 256 0], [.str 256 0], [.str 256 0], [.str 256 0], [ks71], [.str 256 0], [ks72], [ks112], [ks113], [ks145], [.str 256 0], [ks71], [.str 256 0], [ks72], [ks112], [ks113], [ks145], [.str 256 0]]
def kv151 : CV := .str 70 0x2000000a54333892df3139cb059db3c77c7fd460200000018002b3d59a213d513e14bc3de57d0c46801040000001e00589a1ba418bb7b8dce4bf81a7f3989e7040000001d00
def kv152 : CV := .str 30 0x7e100000000000000000700000000000000000038e0
def kv153 : CV := .str 20 0x7e100000000000000000700
def kv154 : CV := .str 256 0x9d1e47bd99e6a6d476f6d5bc186f732a040000001c00000000010200011d000500000004
def kl155 : List (List CT) := [[I 18, I 19], [I 22, I 25], [I 32, I 94]]
def kv156 : CV := .str 40 0x7e1000000000000000038e0000000000000000380000000000000000000400f
def kv157 : CV := .str 256 0x7e1000000000000000038e0000000000000000380000000000000000000400f28000500000005
def kl158 : List (List CT) := [[I 15, I 5, W 0xe7893980, W 0x1af84c0d, W 0x8d7bc2f8, W 0xa41c44f8], [I 16, I 5, W 0xf2afe182, W 0x4e897573, W 0xaf6925d8, W 0x1fd41638], [I 24, I 2, W 0x46fdc777, W 0x3cdb59b0, W 0x9c13f32d, W 0x893343a5]]
def kv159 : CV := .str 66 0xa54333892df3139cb059db3c77c7fd460200000018003816d41fd82569af7375894e82e1aff2050000001000f8441ca4f8c27b8d0d4cf81a803989e7050000000f00
def kv160 : CV := .str 82 0x2000000a54333892df3139cb059db3c77c7fd460200000018003816d41fd82569af7375894e82e1aff2050000001000f8441ca4f8c27b8d0d4cf81a803989e7050000000f00070000000300000005000000
def kv161 : CV := .str 256 0x2000000a54333892df3139cb059db3c77c7fd460200000018003816d41fd82569af7375894e82e1aff2050000001000f8441ca4f8c27b8d0d4cf81a803989e7050000000f0007000000030000000500000052000500000006
def kl162 : List (List CT) := [[I 17, I 5, W 0xf5b67126, W 0xdd8faa26, W 0x3ef50a35, W 0x9f902b0e]]
def kv163 : CV := .str 22 0xe2b909f350af53e26aa8fdd2671b6f5050000001100
def kv164 : CV := .str 256 0xb1bae4cc4477bdc52b2a080566d252a60e2b909f350af53e26aa8fdd2671b6f5050000001100050700000005000000ab
def ks165 : CT := .str 256 0xb1bae4cc4477bdc52b2a080566d252a60e2b909f350af53e26aa8fdd2671b6f5050000001100050700000005000000ab
def ks166 : CT := .str 256 0x9d1e47bd99e6a6d476f6d5bc186f732a040000001c00000000010200011d000500000004
def ks167 : CT := .str 256 0x7e1000000000000000038e0000000000000000380000000000000000000400f28000500000005
def ks168 : CT := .str 256 0x2000000a54333892df3139cb059db3c77c7fd460200000018003816d41fd82569af7375894e82e1aff2050000001000f8441ca4f8c27b8d0d4cf81a803989e7050000000f0007000000030000000500000052000500000006
def kl169 : List (List CT) := [[ks71], [.str 256 0], [ks72], [ks112], [ks113], [ks145], [ks165], [ks71], [.str 256 0], [ks72], [ks112], [ks113], [ks145], [ks165], [ks20], [ks166], [ks167], [ks168], [ks74], [ks114], [ks115], [ks116], [ks117], [ks118], [ks119], [ks120], [ks121], [ks122], [ks146], [ks147], [ks148], [ks149], [.str 256 0], [.str 256 0], [.str 256 0], [.str 256 0], [.str 256 0], [.str 256 0], [.str 256 0], [.str 256 0], [.str 256 0], [.str 256 0], [.str 256 0], [.str 256 0], [.str 256 0], [.str 256 0], [.str 256 0], [.str 256 0], [.str 256 0], [.str 256 0], [.str 256 0], [.str 256 0], [.str 256 0], [.str 256 0], [.str 256 0], [.str 256 0], [.str 256 0], [.str 256 0], [.str 256 0], [.str 256 0], [.str 256 0], [.str 256 0], [.str 256 0], [.str 256 0], [.str 256 0], [.str 256 0], [.str 256 0], [.str 256 0], [.str 256 0], [.str 256 0], [.str 256 0], [.str 256 0], [.str 256 0], [.str 256 0], [.str 256 0], [.str 256 0], [.str 256 0], [.str 256 0], [.str 256 0], [.str 256 0], [.str 256 0], [.str 256 0], [.str 256 0], [.str 256 0], [.str 256 0], [.str 256 0], [.str 256 0], [.str 256 0], [.str 256 0], [.str 256 0], [.str 256 0], [.str 256 0], [.str 256 0], [.str 256 0], [ks71], [.str 256 0], [ks72], [ks112], [ks113], [ks145], [ks165], [ks71], [.str 256 0], [ks72], [ks112], [ks113], [ks145], [ks165]]
def kv170 : CV := .str 70 0x2000000a54333892df3139cb059db3c77c7fd460200000018003816d41fd82569af7375894e82e1aff2050000001000f8441ca4f8c27b8d0d4cf81a803989e7050000000f00
def kv171 : CV := .str 30 0x7e1000000000000000038e000000000000000038000
def kv172 : CV := .str 20 0x7e1000000000000000038e0
def kv173 : CV := .str 256 0x9d1e47bd99e6a6d476f6d5bc186f732a040000001c00000000010200011d000600000004
def kl174 : List (List CT) := [[I 14, I 15], [I 18, I 19], [I 28, I 29], [I 32, I 34]]
def kl175 : List (List CT) := [[I 14, I 19], [I 28, I 29], [I 32, I 34]]
def kl176 : List (List CT) := [[I 15, I 18], [I 19, I 28], [I 29, I 32], [I 34, I 94]]
def kl177 : List (List CT) := [[I 19, I 28], [I 29, I 32], [I 34, I 94]]
def kv178 : CV := .str 40 0x7e1000000000000000380000000000000000000000e000000000000000c4011
def kv179 : CV := .str 256 0x7e1000000000000000380000000000000000000000e000000000000000c401128000600000005
def kl180 : List (List CT) := [[I 18, I 6, W 0xe7893981, W 0x1af84c4c, W 0x8d7bcad8, W 0xa41cef98], [I 32, I 6, W 0x112ffecb, W 0x3a9060ba, W 0x4b3dfda0, W 0xdf2ab700], [I 24, I 2, W 0x46fdc777, W 0x3cdb59b0, W 0x9c13f32d, W 0x893343a5]]
def kv181 : CV := .str 66 0xa54333892df3139cb059db3c77c7fd4602000000180000b72adfa0fd3d4bba60903acbfe2f1106000000200098ef1ca4d8ca7b8d4c4cf81a813989e7060000001200
def kv182 : CV := .str 82 0x2000000a54333892df3139cb059db3c77c7fd4602000000180000b72adfa0fd3d4bba60903acbfe2f1106000000200098ef1ca4d8ca7b8d4c4cf81a813989e7060000001200070000000300000006000000
def kv183 : CV := .str 256 0x2000000a54333892df3139cb059db3c77c7fd4602000000180000b72adfa0fd3d4bba60903acbfe2f1106000000200098ef1ca4d8ca7b8d4c4cf81a813989e706000000120007000000030000000600000052000600000006
def kl184 : List (List CT) := [[I 33, I 6, W 0xfe9f09c, W 0x54fe1274, W 0xfb2ebeff, W 0x91747b15]]
def kv185 : CV := .str 22 0x157b7491ffbe2efb7412fe549cf0e90f060000002100
def kv186 : CV := .str 256 0x99a804ea572b91fd6b77f4c8a78b3d4d157b7491ffbe2efb7412fe549cf0e90f060000002100000700000006000000ab
def ks187 : CT := .str 256 0x99a804ea572b91fd6b77f4c8a78b3d4d157b7491ffbe2efb7412fe549cf0e90f060000002100000700000006000000ab
def ks188 : CT := .str 256 0x9d1e47bd99e6a6d476f6d5bc186f732a040000001c00000000010200011d000600000004
def ks189 : CT := .str 256 0x7e1000000000000000380000000000000000000000e000000000000000c401128000600000005
def ks190 : CT := .str 256 0x2000000a54333892df3139cb059db3c77c7fd4602000000180000b72adfa0fd3d4bba60903acbfe2f1106000000200098ef1ca4d8ca7b8d4c4cf81a813989e706000000120007000000030000000600000052000600000006
def kl191 : List (List CT) := [[ks71], [ks187], [ks72], [ks112], [ks113], [ks145], [ks165], [ks71], [ks187], [ks72], [ks112], [ks113], [ks145], [ks165], [ks20], [ks166], [ks167], [ks168], [ks188], [ks114], [ks115], [ks116], [ks117], [ks118], [ks119], [ks120], [ks121], [ks122], [ks146], [ks147], [ks148], [ks149], [ks189], [ks190], [.str 256 0], [.str 256 0], [.str 256 0], [.str 256 0], [.str 256 0], [.str 256 0], [.str 256 0], [.str 256 0], [.str 256 0], [.str 256 0], [.str 256 0], [.str 256 0], [.str 256 0], [.str 256 0], [.str 256 0], [.str 256 0], [.str 256 0], [.str 256 0], [.str 256 0], [.str 256 0], [.str 256 0], [.str 256 0], [.str 256 0], [.str 256 0], [.str 256 0], [.str 256 0], [.str 256 0], [.str 256 0], [.str 256 0], [.str 256 0], [.str 256 0], [.str 256 0], [.str 256 0], [.str 256 0], [.str 256 0], [.str 256 0], [.str 256 0], [.str 256 0], [.str 256 0], [.str 256 0], [.str 256 0], [.str 256 0], [.str 256 0], [.str 256 0], [.str 256 0], [.str 256 0], [.str 256 0], [.str 256 0], [.str 256 0], [.str 256 0], [.str 256 0], [.str 256 0], [.str 256 0], [.str 256 0], [.str 256 0], [.str 256 0], [.str 256 0], [.str 256 0], [.str 256 0], [.str 256 0], [ks71], [ks187], [ks72], [ks112], [ks113], [ks145], [ks165], [ks71], [ks187], [ks72], [ks112], [ks113], [ks145], [ks165]]
def kv192 : CV := .str 246 0x99a804ea572b91fd6b77f4c8a78b3d4d157b7491ffbe2efb7412fe549cf0e90f060000002100
def kv193 : CV := .str 224 0x99a804ea572b91fd6b77f4c8a78b3d4d
def kv194 : CV := .str 246 0x8cb4db4283dd2be04b280157d2e7d255d4188088d3cf1fe20162ba5e99888b57010000001200
def kv195 : CV := .str 224 0x8cb4db4283dd2be04b280157d2e7d255
def kv196 : CV := .str 246 0x219e322258b907151df3568b5b225815a54333892df3139cb059db3c77c7fd46020000001800
def kv197 : CV := .str 224 0x219e322258b907151df3568b5b225815
def kv198 : CV := .str 246 0x7deec600295ab2162db7868fde4a938c9e277427f594d25f16267bdbc4b084c8030000001b00
def kv199 : CV := .str 224 0x7deec600295ab2162db7868fde4a938c
def kv200 : CV := .str 246 0x19f7cb2c8626312da51a50b26f7db1c6f4de167dcc7f563a32dcf5f2af771610040000001f00
def kv201 : CV := .str 224 0x19f7cb2c8626312da51a50b26f7db1c6
def kv202 : CV := .str 246 0xb1bae4cc4477bdc52b2a080566d252a60e2b909f350af53e26aa8fdd2671b6f5050000001100
def kv203 : CV := .str 224 0xb1bae4cc4477bdc52b2a080566d252a6
def kv204 : CV := .str 70 0x2000000a54333892df3139cb059db3c77c7fd4602000000180000b72adfa0fd3d4bba60903acbfe2f1106000000200098ef1ca4d8ca7b8d4c4cf81a813989e7060000001200
def kv205 : CV := .str 30 0x7e1000000000000000380000000000000000000000e
def kv206 : CV := .str 20 0x7e100000000000000038000
def kl207 : List (List CT) := [[I 14, I 15], [I 18, I 25], [I 28, I 29], [I 32, I 34]]
def kl208 : List (List CT) := [[I 14, I 25], [I 28, I 29], [I 32, I 34]]
def kl209 : List (List CT) := [[I 15, I 18], [I 25, I 28], [I 29, I 32], [I 34, I 94]]
def kl210 : List (List CT) := [[I 25, I 28], [I 29, I 32], [I 34, I 94]]
def kv211 : CV := .str 256 0xb01d877d42d32ad2afcd0b78706d7a25020000001500000000010100011d000700000004
def kl212 : List (List CT) := [[I 18, I 19], [I 22, I 25], [I 28, I 29], [I 32, I 34]]
def kl213 : List (List CT) := [[I 14, I 15], [I 18, I 29], [I 32, I 34]]
def kv214 : CV := .str 40 0xe000000000000000c4710000000000000000038e1
def kv215 : CV := .str 256 0xe000000000000000c4710000000000000000038e128000700000005
def kl216 : List (List CT) := [[I 25, I 7, W 0x2b4938f7, W 0xe48b2c8a, W 0xfd0350c0, W 0x5f2c4fa0], [I 26, I 7, W 0xfb6f1044, W 0x757fd089, W 0x70fe6af8, W 0x838b8220], [I 0, I 0, W 0, W 0, W 0, W 0]]
def kv217 : CV := .str 66 0x20828b83f86afe7089d07f7544106ffb070000001a00a04f2c5fc05003fd8a2c8be4f738492b070000001900
def kv218 : CV := .str 82 0x20828b83f86afe7089d07f7544106ffb070000001a00a04f2c5fc05003fd8a2c8be4f738492b070000001900070000000300000007000000
def kv219 : CV := .str 256 0x20828b83f86afe7089d07f7544106ffb070000001a00a04f2c5fc05003fd8a2c8be4f738492b07000000190007000000030000000700000052000700000006
def kl220 : List (List CT) := [[I 27, I 7, W 0x69703c85, W 0x4f51afd1, W 0xc67a505b, W 0xe6370baa]]
def kv221 : CV := .str 22 0xaa0b37e65b507ac6d1af514f853c7069070000001b00
def kv222 : CV := .str 256 0x44a4df8d8f22757ab6eeabaf1d76477eaa0b37e65b507ac6d1af514f853c7069070000001b00010700000007000000ab
def ks223 : CT := .str 256 0x44a4df8d8f22757ab6eeabaf1d76477eaa0b37e65b507ac6d1af514f853c7069070000001b00010700000007000000ab
def ks224 : CT := .str 256 0xb01d877d42d32ad2afcd0b78706d7a25020000001500000000010100011d000700000004
def ks225 : CT := .str 256 0xe000000000000000c4710000000000000000038e128000700000005
def ks226 : CT := .str 256 0x20828b83f86afe7089d07f7544106ffb070000001a00a04f2c5fc05003fd8a2c8be4f738492b07000000190007000000030000000700000052000700000006
def kl227 : List (List CT) := [[ks71], [ks187], [ks223], [ks112], [ks113], [ks145], [ks165], [ks71], [ks187], [ks223], [ks112], [ks113], [ks145], [ks165], [ks20], [ks166], [ks167], [ks168], [ks188], [ks114], [ks115], [ks116], [ks117], [ks118], [ks119], [ks224], [ks225], [ks226], [ks146], [ks147], [ks148], [ks149], [ks189], [ks190], [.str 256 0], [.str 256 0], [.str 256 0], [.str 256 0], [.str 256 0], [.str 256 0], [.str 256 0], [.str 256 0], [.str 256 0], [.str 256 0], [.str 256 0], [.str 256 0], [.str 256 0], [.str 256 0], [.str 256 0], [.str 256 0], [.str 256 0], [.str 256 0], [.str 256 0], [.str 256 0], [.str 256 0], [.str 256 0], [.str 256 0], [.str 256 0], [.str 256 0], [.str 256 0], [.str 256 0], [.str 256 0], [.str 256 0], [.str 256 0], [.str 256 0], [.str 256 0], [.str 256 0], [.str 256 0], [.str 256 0], [.str 256 0], [.str 256 0], [.str 256 0], [.str 256 0], [.str 256 0], [.str 256 0], [.str 256 0], [.str 256 0], [.str 256 0], [.str 256 0], [.str 256 0], [.str 256 0], [.str 256 0], [.str 256 0], [.str 256 0], [.str 256 0], [.str 256 0], [.str 256 0], [.str 256 0], [.str 256 0], [.str 256 0], [.str 256 0], [.str 256 0], [.str 256 0], [.str 256 0], [ks71], [ks187], [ks223], [ks112], [ks113], [ks145], [ks165], [ks71], [ks187], [ks223], [ks112], [ks113], [ks145], [ks165]]
def kl228 : List (List CT) := [[I 1, I 1, I 0, I 0, .seq 5 kl76], [I 3, I 1, I 0, I 0, .seq 5 kl0]]
def kv229 : CV := .str 246 0x44a4df8d8f22757ab6eeabaf1d76477eaa0b37e65b507ac6d1af514f853c7069070000001b00
def kv230 : CV := .str 224 0x44a4df8d8f22757ab6eeabaf1d76477e
def kv231 : CV := .str 70 0x20828b83f86afe7089d07f7544106ffb070000001a00a04f2c5fc05003fd8a2c8be4f738492b070000001900
def kv232 : CV := .str 30 0xe000000000000000c4710
/- palimp/node.May, 1999 operations -/
def kc1_0 : List MS := [
  ⟨[.t (.seq 5 kl0)], .bool true⟩,
  ⟨[.t (.seq 5 kl27)], .bool true⟩,
  ⟨[.t (.seq 5 kl76)], .bool true⟩]
theorem kc1_0_ok : chkS (E.orc 40) 109 kc1_0 = true := by kernel_rfl
/- palimp/span.May, 1208 operations -/
def kc1_1 : List MS := [
  ⟨[.t (.seq 2 [])], .bool true⟩,
  ⟨[.t (.seq 2 [[I 14, I 74]])], .bool true⟩,
  ⟨[.t (.seq 2 [[I 14, I 19]])], .bool true⟩,
  ⟨[.t (.nilS)], .bool true⟩,
  ⟨[.t (.seq 2 [[I 19, I 74]])], .bool true⟩,
  ⟨[.t (.seq 2 [[I 14, I 15], [I 19, I 25]])], .bool true⟩,
  ⟨[.t (.seq 2 [[I 15, I 19]])], .bool true⟩,
  ⟨[.t (.seq 2 [[I 14, I 94]])], .bool true⟩,
  ⟨[.t (.seq 2 [[I 19, I 94]])], .bool true⟩,
  ⟨[.t (.seq 2 [[I 25, I 94]])], .bool true⟩,
  ⟨[.t (.seq 2 kl101)], .bool true⟩,
  ⟨[.t (.seq 2 [[I 22, I 25]])], .bool true⟩,
  ⟨[.t (.seq 2 [[I 28, I 94]])], .bool true⟩,
  ⟨[.t (.seq 2 [[I 14, I 15], [I 28, I 32]])], .bool true⟩,
  ⟨[.t (.seq 2 [[I 19, I 22], [I 25, I 28]])], .bool true⟩,
  ⟨[.t (.seq 2 [[I 15, I 19], [I 32, I 94]])], .bool true⟩,
  ⟨[.t (.seq 2 [[I 14, I 18], [I 28, I 29]])], .bool true⟩,
  ⟨[.t (.seq 2 [[I 29, I 32]])], .bool true⟩,
  ⟨[.t (.seq 2 [[I 18, I 19], [I 32, I 94]])], .bool true⟩,
  ⟨[.t (.seq 2 kl174)], .bool true⟩,
  ⟨[.t (.seq 2 [[I 15, I 18]])], .bool true⟩,
  ⟨[.t (.seq 2 kl207)], .bool true⟩,
  ⟨[.t (.seq 2 [[I 25, I 28], [I 34, I 94]])], .bool true⟩,
  ⟨[.t (.seq 2 kl212)], .bool true⟩]
theorem kc1_1_ok : chkS (E.orc 40) 112 kc1_1 = true := by kernel_rfl
/- palimp/ptr.Put, 7466 operations -/
def kc1_2 : List MS := [
  ⟨[.t (.seq 6 kl1)], .str 88 0⟩,
  ⟨[.t (.seq 6 kl3)], kv4⟩,
  ⟨[.t (.seq 6 kl6)], kv7⟩,
  ⟨[.t (.seq 6 kl11)], kv12⟩,
  ⟨[.t (.seq 6 kl15)], kv16⟩,
  ⟨[.t (.seq 6 kl30)], kv31⟩,
  ⟨[.t (.seq 6 kl34)], kv35⟩,
  ⟨[.t (.seq 6 kl37)], kv38⟩,
  ⟨[.t (.seq 6 kl43)], kv44⟩,
  ⟨[.t (.seq 6 kl47)], kv48⟩,
  ⟨[.t (.seq 6 kl64)], kv65⟩,
  ⟨[.t (.seq 6 kl68)], kv69⟩,
  ⟨[.t (.seq 6 kl79)], kv80⟩,
  ⟨[.t (.seq 6 kl83)], kv84⟩,
  ⟨[.t (.seq 6 kl86)], kv87⟩,
  ⟨[.t (.seq 6 kl92)], kv93⟩,
  ⟨[.t (.seq 6 kl96)], kv97⟩,
  ⟨[.t (.seq 6 kl105)], kv106⟩,
  ⟨[.t (.seq 6 kl109)], kv110⟩,
  ⟨[.t (.seq 6 kl130)], kv131⟩,
  ⟨[.t (.seq 6 kl138)], kv139⟩,
  ⟨[.t (.seq 6 kl142)], kv143⟩,
  ⟨[.t (.seq 6 kl158)], kv159⟩,
  ⟨[.t (.seq 6 kl162)], kv163⟩,
  ⟨[.t (.seq 6 kl180)], kv181⟩,
  ⟨[.t (.seq 6 kl184)], kv185⟩,
  ⟨[.t (.seq 6 kl216)], kv217⟩,
  ⟨[.t (.seq 6 kl220)], kv221⟩]
theorem kc1_2_ok : chkS (E.orc 40) 130 kc1_2 = true := by kernel_rfl
/- palimp/rec.Node, 3970 operations -/
def kc1_3 : List MS := [
  ⟨[.agg [J 2, J 0, .str 0 0, .str 0 0, J 0], J 0, .t (.seq 6 kl1)], .str 93 2⟩,
  ⟨[.agg [J 1, J 0, .str 1 97, .str 2 26984, J 0], J 2, .t (.seq 6 kl30)], kv32⟩,
  ⟨[.agg [J 1, J 0, .str 1 97, .str 0 0, J 0], J 2, .t (.seq 6 kl30)], kv32⟩,
  ⟨[.agg [J 1, J 0, .str 1 97, .str 3 0x646c6f, J 0], J 3, .t (.seq 6 kl79)], kv81⟩,
  ⟨[.agg [J 1, J 0, .str 1 97, .str 0 0, J 0], J 3, .t (.seq 6 kl79)], kv81⟩]
theorem kc1_3_ok : chkS (E.orc 40) 223 kc1_3 = true := by kernel_rfl
/- palimp/block.Put, 2345 operations -/
def kc1_4 : List MS := [
  ⟨[.agg [J 2, J 1, .str 93 2]], kv2⟩,
  ⟨[.agg [J 3, J 1, kv4]], kv5⟩,
  ⟨[.agg [J 4, J 1, kv8]], kv9⟩,
  ⟨[.agg [J 5, J 1, .str 32 31]], kv10⟩,
  ⟨[.agg [J 6, J 1, kv13]], kv14⟩,
  ⟨[.agg [J 1, J 2, .str 32 26984]], kv29⟩,
  ⟨[.agg [J 2, J 2, kv32]], kv33⟩,
  ⟨[.agg [J 3, J 2, kv35]], kv36⟩,
  ⟨[.agg [J 4, J 2, kv39]], kv40⟩,
  ⟨[.agg [J 5, J 2, kv41]], kv42⟩,
  ⟨[.agg [J 6, J 2, kv45]], kv46⟩,
  ⟨[.agg [J 5, J 1, .str 40 31]], kv63⟩,
  ⟨[.agg [J 6, J 1, kv66]], kv67⟩,
  ⟨[.agg [J 1, J 2, .str 32 0x646c6f]], kv78⟩,
  ⟨[.agg [J 2, J 2, kv81]], kv82⟩,
  ⟨[.agg [J 3, J 2, kv84]], kv85⟩,
  ⟨[.agg [J 4, J 2, kv88]], kv89⟩,
  ⟨[.agg [J 5, J 2, kv90]], kv91⟩,
  ⟨[.agg [J 6, J 2, kv94]], kv95⟩,
  ⟨[.agg [J 4, J 3, kv88]], kv100⟩,
  ⟨[.agg [J 5, J 3, kv103]], kv104⟩,
  ⟨[.agg [J 6, J 3, kv107]], kv108⟩,
  ⟨[.agg [J 3, J 4, kv4]], kv129⟩,
  ⟨[.agg [J 4, J 4, kv132]], kv133⟩,
  ⟨[.agg [J 5, J 4, kv136]], kv137⟩,
  ⟨[.agg [J 6, J 4, kv140]], kv141⟩,
  ⟨[.agg [J 4, J 5, kv132]], kv154⟩,
  ⟨[.agg [J 5, J 5, kv156]], kv157⟩,
  ⟨[.agg [J 6, J 5, kv160]], kv161⟩,
  ⟨[.agg [J 4, J 6, kv132]], kv173⟩,
  ⟨[.agg [J 5, J 6, kv178]], kv179⟩,
  ⟨[.agg [J 6, J 6, kv182]], kv183⟩,
  ⟨[.agg [J 4, J 7, kv88]], kv211⟩,
  ⟨[.agg [J 5, J 7, kv214]], kv215⟩,
  ⟨[.agg [J 6, J 7, kv218]], kv219⟩]
theorem kc1_4_ok : chkS (E.orc 40) 78 kc1_4 = true := by kernel_rfl
/- palimp/smap.Put, 23904 operations -/
def kc1_5 : List MS := [
  ⟨[J 60, .t (.seq 2 [[I 14, I 19]])], .str 8 31⟩,
  ⟨[J 60, .t (.nilS)], .str 8 0⟩,
  ⟨[J 60, .t (.seq 2 [])], .str 8 0⟩,
  ⟨[J 60, .t (.seq 2 [[I 14, I 15], [I 19, I 25]])], .str 8 2017⟩,
  ⟨[J 60, .t (.seq 2 [[I 15, I 19]])], .str 8 30⟩,
  ⟨[J 80, .t (.seq 2 [[I 14, I 19]])], .str 10 31⟩]
theorem kc1_5_ok : chkS (E.orc 40) 127 kc1_5 = true := by kernel_rfl
/- palimp/smap.Put, 18620 operations -/
def kc1_6 : List MS := [
  ⟨[J 80, .t (.nilS)], .str 10 0⟩,
  ⟨[J 80, .t (.seq 2 [])], .str 10 0⟩,
  ⟨[J 80, .t (.seq 2 [[I 14, I 15], [I 19, I 25]])], .str 10 2017⟩,
  ⟨[J 80, .t (.seq 2 [[I 15, I 19]])], .str 10 30⟩]
theorem kc1_6_ok : chkS (E.orc 40) 127 kc1_6 = true := by kernel_rfl
/- palimp/smap.Put, 16774 operations -/
def kc1_7 : List MS := [
  ⟨[J 80, .t (.seq 2 kl101)], .str 10 14561⟩,
  ⟨[J 80, .t (.seq 2 [[I 22, I 25]])], .str 10 1792⟩]
theorem kc1_7_ok : chkS (E.orc 40) 127 kc1_7 = true := by kernel_rfl
/- palimp/smap.Put, 24972 operations -/
def kc1_8 : List MS := [
  ⟨[J 80, .t (.seq 2 [[I 14, I 15], [I 28, I 32]])], .str 10 0x3c001⟩,
  ⟨[J 80, .t (.seq 2 [[I 19, I 22], [I 25, I 28]])], .str 10 14560⟩,
  ⟨[J 80, .t (.seq 2 [[I 14, I 18], [I 28, I 29]])], .str 10 16399⟩]
theorem kc1_8_ok : chkS (E.orc 40) 127 kc1_8 = true := by kernel_rfl
/- palimp/smap.Put, 19963 operations -/
def kc1_9 : List MS := [
  ⟨[J 80, .t (.seq 2 [[I 29, I 32]])], .str 10 0x38000⟩,
  ⟨[J 80, .t (.seq 2 kl174)], .str 10 0xc4011⟩]
theorem kc1_9_ok : chkS (E.orc 40) 127 kc1_9 = true := by kernel_rfl
/- palimp/smap.Put, 20080 operations -/
def kc1_10 : List MS := [
  ⟨[J 80, .t (.seq 2 [[I 15, I 18]])], .str 10 14⟩,
  ⟨[J 80, .t (.seq 2 kl212)], .str 10 0xc4710⟩]
theorem kc1_10_ok : chkS (E.orc 40) 127 kc1_10 = true := by kernel_rfl
/- palimp/uber.Put, 2493 operations -/
def kc1_11 : List MS := [
  ⟨[.agg [J 1, J 7, J 1, J 18, J 1, U 0xc18b8899, U 0xcfba61f9, U 0x751fce33, U 0xde7fedc4]], kv17⟩,
  ⟨[.agg [J 2, J 7, J 2, J 24, J 2, U 0xa0b4ea1a, U 0xfcd9e230, U 0xc147f66d, U 0xa0816dc0]], kv49⟩,
  ⟨[.agg [J 1, J 7, J 1, J 18, J 1, U 0x578b8899, U 0x5eba6201, U 0xe21fcfd3, U 0x888018d4]], kv70⟩,
  ⟨[.agg [J 2, J 7, J 2, J 24, J 2, U 0x46fdc777, U 0x3cdb59b0, U 0x9c13f32d, U 0x893343a5]], kv98⟩,
  ⟨[.agg [J 3, J 7, J 3, J 27, J 3, U 0xc884b0c4, U 0xdb7b2616, U 0x5fd294f5, U 0x2774279e]], kv111⟩,
  ⟨[.agg [J 4, J 7, J 4, J 31, J 4, U 0x101677af, U 0xf2f5dc32, U 0x3a567fcc, U 0x7d16def4]], kv144⟩,
  ⟨[.agg [J 5, J 7, J 5, J 17, J 5, U 0xf5b67126, U 0xdd8faa26, U 0x3ef50a35, U 0x9f902b0e]], kv164⟩,
  ⟨[.agg [J 6, J 7, J 0, J 33, J 6, U 0xfe9f09c, U 0x54fe1274, U 0xfb2ebeff, U 0x91747b15]], kv186⟩,
  ⟨[.agg [J 7, J 7, J 1, J 27, J 7, U 0x69703c85, U 0x4f51afd1, U 0xc67a505b, U 0xe6370baa]], kv222⟩]
theorem kc1_11_ok : chkS (E.orc 40) 134 kc1_11 = true := by kernel_rfl
/- palimp/data.Parts, 804 operations -/
def kc1_12 : List MS := [
  ⟨[.str 0 0], J 0⟩,
  ⟨[.str 2 26984], J 1⟩,
  ⟨[.str 3 0x646c6f], J 1⟩,
  ⟨[.str 3 0x77656e], J 1⟩]
theorem kc1_12_ok : chkS (E.orc 40) 139 kc1_12 = true := by kernel_rfl
/- palimp/uber.Take, 5909 operations -/
def kc1_13 : List MS := [
  ⟨[.str 256 0], .tup [.agg [J 0, J 0, J 0, J 0, J 0, U 0, U 0, U 0, U 0], .bool false]⟩,
  ⟨[kv17], .tup [.agg [J 1, J 7, J 1, J 18, J 1, U 0xc18b8899, U 0xcfba61f9, U 0x751fce33, U 0xde7fedc4], .bool true]⟩,
  ⟨[kv49], .tup [.agg [J 2, J 7, J 2, J 24, J 2, U 0xa0b4ea1a, U 0xfcd9e230, U 0xc147f66d, U 0xa0816dc0], .bool true]⟩,
  ⟨[kv186], .tup [.agg [J 6, J 7, J 0, J 33, J 6, U 0xfe9f09c, U 0x54fe1274, U 0xfb2ebeff, U 0x91747b15], .bool true]⟩,
  ⟨[kv70], .tup [.agg [J 1, J 7, J 1, J 18, J 1, U 0x578b8899, U 0x5eba6201, U 0xe21fcfd3, U 0x888018d4], .bool true]⟩,
  ⟨[kv98], .tup [.agg [J 2, J 7, J 2, J 24, J 2, U 0x46fdc777, U 0x3cdb59b0, U 0x9c13f32d, U 0x893343a5], .bool true]⟩,
  ⟨[kv111], .tup [.agg [J 3, J 7, J 3, J 27, J 3, U 0xc884b0c4, U 0xdb7b2616, U 0x5fd294f5, U 0x2774279e], .bool true]⟩,
  ⟨[kv144], .tup [.agg [J 4, J 7, J 4, J 31, J 4, U 0x101677af, U 0xf2f5dc32, U 0x3a567fcc, U 0x7d16def4], .bool true]⟩,
  ⟨[kv164], .tup [.agg [J 5, J 7, J 5, J 17, J 5, U 0xf5b67126, U 0xdd8faa26, U 0x3ef50a35, U 0x9f902b0e], .bool true]⟩,
  ⟨[kv222], .tup [.agg [J 7, J 7, J 1, J 27, J 7, U 0x69703c85, U 0x4f51afd1, U 0xc67a505b, U 0xe6370baa], .bool true]⟩]
theorem kc1_13_ok : chkS (E.orc 40) 207 kc1_13 = true := by kernel_rfl
/- palimp/span.Less, 24265 operations -/
def kc1_14 : List MP := [
  ⟨[.t (.seq 2 []), .t (.seq 2 [[I 14, I 74]])], .t (.nilS), []⟩,
  ⟨[.t (.seq 2 [[I 14, I 74]]), .t (.seq 2 [])], .tok 0 2 0 1, [.row 2 1 [[I 14, I 74]] false]⟩,
  ⟨[.t (.seq 2 []), .t (.seq 2 [[I 14, I 19]])], .t (.nilS), []⟩,
  ⟨[.t (.nilS), .t (.nilS)], .t (.nilS), []⟩,
  ⟨[.t (.seq 2 [[I 14, I 19]]), .t (.seq 2 [[I 14, I 74]])], .t (.nilS), []⟩,
  ⟨[.t (.nilS), .t (.seq 2 [[I 14, I 74]])], .t (.nilS), []⟩,
  ⟨[.t (.seq 2 [[I 14, I 74]]), .t (.seq 2 [[I 14, I 19]])], .tok 0 2 0 1, [.row 2 1 [[I 19, I 74]] false]⟩,
  ⟨[.t (.seq 2 [[I 19, I 74]]), .t (.seq 2 [])], .tok 0 2 0 1, [.row 2 1 [[I 19, I 74]] false]⟩,
  ⟨[.t (.seq 2 [[I 14, I 19]]), .t (.seq 2 [[I 14, I 15], [I 19, I 25]])], .tok 0 2 0 1, [.row 2 1 [[I 15, I 19]] false]⟩,
  ⟨[.t (.seq 2 []), .t (.seq 2 [[I 14, I 15], [I 19, I 25]])], .t (.nilS), []⟩,
  ⟨[.t (.nilS), .t (.seq 2 [[I 15, I 19]])], .t (.nilS), []⟩,
  ⟨[.t (.seq 2 [[I 14, I 15], [I 19, I 25]]), .t (.seq 2 [[I 14, I 74]])], .t (.nilS), []⟩,
  ⟨[.t (.seq 2 [[I 15, I 19]]), .t (.seq 2 [[I 14, I 74]])], .t (.nilS), []⟩,
  ⟨[.t (.seq 2 [[I 14, I 74]]), .t (.seq 2 [[I 14, I 15], [I 19, I 25]])], .tok 0 2 0 2, [.row 2 2 [[I 15, I 19], [I 25, I 74]] false]⟩,
  ⟨[.t (.seq 2 [[I 15, I 19], [I 25, I 74]]), .t (.seq 2 [[I 15, I 19]])], .tok 0 2 0 1, [.row 2 1 [[I 25, I 74]] false]⟩,
  ⟨[.t (.seq 2 [[I 25, I 74]]), .t (.nilS)], .tok 0 2 0 1, [.row 2 1 [[I 25, I 74]] false]⟩,
  ⟨[.t (.seq 2 [[I 25, I 74]]), .t (.seq 2 [])], .tok 0 2 0 1, [.row 2 1 [[I 25, I 74]] false]⟩,
  ⟨[.t (.seq 2 []), .t (.seq 2 [[I 14, I 94]])], .t (.nilS), []⟩,
  ⟨[.t (.seq 2 [[I 14, I 94]]), .t (.seq 2 [])], .tok 0 2 0 1, [.row 2 1 [[I 14, I 94]] false]⟩,
  ⟨[.t (.seq 2 [[I 14, I 19]]), .t (.seq 2 [[I 14, I 94]])], .t (.nilS), []⟩,
  ⟨[.t (.nilS), .t (.seq 2 [[I 14, I 94]])], .t (.nilS), []⟩,
  ⟨[.t (.seq 2 [[I 14, I 94]]), .t (.seq 2 [[I 14, I 19]])], .tok 0 2 0 1, [.row 2 1 [[I 19, I 94]] false]⟩,
  ⟨[.t (.seq 2 [[I 19, I 94]]), .t (.seq 2 [])], .tok 0 2 0 1, [.row 2 1 [[I 19, I 94]] false]⟩,
  ⟨[.t (.seq 2 [[I 14, I 15], [I 19, I 25]]), .t (.seq 2 [[I 14, I 94]])], .t (.nilS), []⟩,
  ⟨[.t (.seq 2 [[I 15, I 19]]), .t (.seq 2 [[I 14, I 94]])], .t (.nilS), []⟩,
  ⟨[.t (.seq 2 [[I 14, I 94]]), .t (.seq 2 [[I 14, I 15], [I 19, I 25]])], .tok 0 2 0 2, [.row 2 2 [[I 15, I 19], [I 25, I 94]] false]⟩,
  ⟨[.t (.seq 2 [[I 15, I 19], [I 25, I 94]]), .t (.seq 2 [[I 15, I 19]])], .tok 0 2 0 1, [.row 2 1 [[I 25, I 94]] false]⟩,
  ⟨[.t (.seq 2 [[I 25, I 94]]), .t (.nilS)], .tok 0 2 0 1, [.row 2 1 [[I 25, I 94]] false]⟩,
  ⟨[.t (.seq 2 [[I 25, I 94]]), .t (.seq 2 [])], .tok 0 2 0 1, [.row 2 1 [[I 25, I 94]] false]⟩,
  ⟨[.t (.seq 2 [[I 25, I 94]]), .t (.seq 2 [[I 14, I 15], [I 19, I 25]])], .tok 0 2 0 1, [.row 2 1 [[I 25, I 94]] false]⟩,
  ⟨[.t (.seq 2 [[I 14, I 15], [I 19, I 25]]), .t (.seq 2 kl101)], .tok 0 2 0 1, [.row 2 1 [[I 22, I 25]] false]⟩,
  ⟨[.t (.seq 2 [[I 15, I 19]]), .t (.seq 2 kl101)], .tok 0 2 0 1, [.row 2 1 [[I 15, I 19]] false]⟩,
  ⟨[.t (.seq 2 [[I 15, I 19]]), .t (.seq 2 [[I 22, I 25]])], .tok 0 2 0 1, [.row 2 1 [[I 15, I 19]] false]⟩,
  ⟨[.t (.seq 2 kl101), .t (.seq 2 [[I 14, I 94]])], .t (.nilS), []⟩,
  ⟨[.t (.seq 2 [[I 22, I 25]]), .t (.seq 2 [[I 14, I 94]])], .t (.nilS), []⟩,
  ⟨[.t (.seq 2 [[I 14, I 94]]), .t (.seq 2 kl101)], .tok 0 2 0 3, [.row 2 3 kl102 false]⟩,
  ⟨[.t (.seq 2 kl102), .t (.seq 2 [[I 22, I 25]])], .tok 0 2 0 2, [.row 2 2 [[I 15, I 19], [I 28, I 94]] false]⟩,
  ⟨[.t (.seq 2 [[I 15, I 19], [I 28, I 94]]), .t (.seq 2 [[I 15, I 19]])], .tok 0 2 0 1, [.row 2 1 [[I 28, I 94]] false]⟩,
  ⟨[.t (.seq 2 [[I 28, I 94]]), .t (.seq 2 [[I 14, I 15], [I 19, I 25]])], .tok 0 2 0 1, [.row 2 1 [[I 28, I 94]] false]⟩,
  ⟨[.t (.seq 2 kl101), .t (.seq 2 [[I 14, I 15], [I 28, I 32]])], .tok 0 2 0 2, [.row 2 2 [[I 19, I 22], [I 25, I 28]] false]⟩,
  ⟨[.t (.seq 2 [[I 22, I 25]]), .t (.seq 2 [[I 14, I 15], [I 28, I 32]])], .tok 0 2 0 1, [.row 2 1 [[I 22, I 25]] false]⟩,
  ⟨[.t (.seq 2 [[I 22, I 25]]), .t (.seq 2 [[I 19, I 22], [I 25, I 28]])], .tok 0 2 0 1, [.row 2 1 [[I 22, I 25]] false]⟩]
theorem kc1_14_ok : chkP (E.orc 40) 124 kc1_14 = true := by kernel_rfl
/- palimp/span.Less, 23815 operations -/
def kc1_15 : List MP := [
  ⟨[.t (.seq 2 [[I 14, I 15], [I 28, I 32]]), .t (.seq 2 [[I 14, I 94]])], .t (.nilS), []⟩,
  ⟨[.t (.seq 2 [[I 19, I 22], [I 25, I 28]]), .t (.seq 2 [[I 14, I 94]])], .t (.nilS), []⟩,
  ⟨[.t (.seq 2 [[I 14, I 94]]), .t (.seq 2 [[I 14, I 15], [I 28, I 32]])], .tok 0 2 0 2, [.row 2 2 [[I 15, I 28], [I 32, I 94]] false]⟩,
  ⟨[.t (.seq 2 [[I 15, I 28], [I 32, I 94]]), .t (.seq 2 [[I 19, I 22], [I 25, I 28]])], .tok 0 2 0 3, [.row 2 3 kl135 false]⟩,
  ⟨[.t (.seq 2 kl135), .t (.seq 2 [[I 22, I 25]])], .tok 0 2 0 2, [.row 2 2 [[I 15, I 19], [I 32, I 94]] false]⟩,
  ⟨[.t (.seq 2 [[I 15, I 19], [I 32, I 94]]), .t (.seq 2 [[I 14, I 15], [I 19, I 25]])], .tok 0 2 0 2, [.row 2 2 [[I 15, I 19], [I 32, I 94]] false]⟩,
  ⟨[.t (.seq 2 [[I 14, I 15], [I 28, I 32]]), .t (.seq 2 [[I 14, I 18], [I 28, I 29]])], .tok 0 2 0 1, [.row 2 1 [[I 29, I 32]] false]⟩,
  ⟨[.t (.seq 2 [[I 19, I 22], [I 25, I 28]]), .t (.seq 2 [[I 14, I 18], [I 28, I 29]])], .tok 0 2 0 2, [.row 2 2 [[I 19, I 22], [I 25, I 28]] false]⟩,
  ⟨[.t (.seq 2 [[I 19, I 22], [I 25, I 28]]), .t (.seq 2 [[I 29, I 32]])], .tok 0 2 0 2, [.row 2 2 [[I 19, I 22], [I 25, I 28]] false]⟩,
  ⟨[.t (.seq 2 [[I 14, I 18], [I 28, I 29]]), .t (.seq 2 [[I 14, I 94]])], .t (.nilS), []⟩,
  ⟨[.t (.seq 2 [[I 29, I 32]]), .t (.seq 2 [[I 14, I 94]])], .t (.nilS), []⟩,
  ⟨[.t (.seq 2 [[I 14, I 94]]), .t (.seq 2 [[I 14, I 18], [I 28, I 29]])], .tok 0 2 0 2, [.row 2 2 [[I 18, I 28], [I 29, I 94]] false]⟩,
  ⟨[.t (.seq 2 [[I 18, I 28], [I 29, I 94]]), .t (.seq 2 [[I 29, I 32]])], .tok 0 2 0 2, [.row 2 2 [[I 18, I 28], [I 32, I 94]] false]⟩,
  ⟨[.t (.seq 2 [[I 18, I 28], [I 32, I 94]]), .t (.seq 2 [[I 19, I 22], [I 25, I 28]])], .tok 0 2 0 3, [.row 2 3 kl155 false]⟩,
  ⟨[.t (.seq 2 kl155), .t (.seq 2 [[I 14, I 15], [I 19, I 25]])], .tok 0 2 0 2, [.row 2 2 [[I 18, I 19], [I 32, I 94]] false]⟩,
  ⟨[.t (.seq 2 [[I 14, I 18], [I 28, I 29]]), .t (.seq 2 kl174)], .tok 0 2 0 1, [.row 2 1 [[I 15, I 18]] false]⟩,
  ⟨[.t (.seq 2 [[I 29, I 32]]), .t (.seq 2 kl174)], .tok 0 2 0 1, [.row 2 1 [[I 29, I 32]] false]⟩,
  ⟨[.t (.seq 2 [[I 29, I 32]]), .t (.seq 2 [[I 15, I 18]])], .tok 0 2 0 1, [.row 2 1 [[I 29, I 32]] false]⟩,
  ⟨[.t (.seq 2 kl174), .t (.seq 2 [[I 14, I 94]])], .t (.nilS), []⟩,
  ⟨[.t (.seq 2 [[I 15, I 18]]), .t (.seq 2 [[I 14, I 94]])], .t (.nilS), []⟩,
  ⟨[.t (.seq 2 [[I 14, I 94]]), .t (.seq 2 kl174)], .tok 0 2 0 4, [.row 2 4 kl176 false]⟩]
theorem kc1_15_ok : chkP (E.orc 40) 124 kc1_15 = true := by kernel_rfl
/- palimp/span.Less, 20872 operations -/
def kc1_16 : List MP := [
  ⟨[.t (.seq 2 kl176), .t (.seq 2 [[I 15, I 18]])], .tok 0 2 0 3, [.row 2 3 kl177 false]⟩,
  ⟨[.t (.seq 2 kl177), .t (.seq 2 [[I 29, I 32]])], .tok 0 2 0 2, [.row 2 2 [[I 19, I 28], [I 34, I 94]] false]⟩,
  ⟨[.t (.seq 2 [[I 19, I 28], [I 34, I 94]]), .t (.seq 2 [[I 14, I 15], [I 19, I 25]])], .tok 0 2 0 2, [.row 2 2 [[I 25, I 28], [I 34, I 94]] false]⟩,
  ⟨[.t (.seq 2 [[I 15, I 18]]), .t (.seq 2 [[I 14, I 15], [I 19, I 25]])], .tok 0 2 0 1, [.row 2 1 [[I 15, I 18]] false]⟩,
  ⟨[.t (.seq 2 [[I 29, I 32]]), .t (.seq 2 [[I 14, I 15], [I 19, I 25]])], .tok 0 2 0 1, [.row 2 1 [[I 29, I 32]] false]⟩,
  ⟨[.t (.seq 2 kl207), .t (.seq 2 [[I 14, I 94]])], .t (.nilS), []⟩,
  ⟨[.t (.seq 2 [[I 14, I 94]]), .t (.seq 2 kl207)], .tok 0 2 0 4, [.row 2 4 kl209 false]⟩,
  ⟨[.t (.seq 2 kl209), .t (.seq 2 [[I 15, I 18]])], .tok 0 2 0 3, [.row 2 3 kl210 false]⟩,
  ⟨[.t (.seq 2 kl210), .t (.seq 2 [[I 29, I 32]])], .tok 0 2 0 2, [.row 2 2 [[I 25, I 28], [I 34, I 94]] false]⟩,
  ⟨[.t (.seq 2 [[I 25, I 28], [I 34, I 94]]), .t (.seq 2 [])], .tok 0 2 0 2, [.row 2 2 [[I 25, I 28], [I 34, I 94]] false]⟩,
  ⟨[.t (.seq 2 kl207), .t (.seq 2 kl101)], .tok 0 2 0 4, [.row 2 4 kl212 false]⟩,
  ⟨[.t (.seq 2 [[I 15, I 18]]), .t (.seq 2 kl101)], .tok 0 2 0 1, [.row 2 1 [[I 15, I 18]] false]⟩,
  ⟨[.t (.seq 2 [[I 15, I 18]]), .t (.seq 2 kl212)], .tok 0 2 0 1, [.row 2 1 [[I 15, I 18]] false]⟩,
  ⟨[.t (.seq 2 kl212), .t (.seq 2 [[I 14, I 94]])], .t (.nilS), []⟩]
theorem kc1_16_ok : chkP (E.orc 40) 124 kc1_16 = true := by kernel_rfl
/- palimp/span.Both, 16531 operations -/
def kc1_17 : List MP := [
  ⟨[.t (.seq 2 []), .t (.seq 2 [])], .t (.nilS), []⟩,
  ⟨[.t (.nilS), .t (.seq 2 [])], .t (.nilS), []⟩,
  ⟨[.t (.seq 2 [[I 14, I 19]]), .t (.nilS)], .t (.nilS), []⟩,
  ⟨[.t (.seq 2 [[I 14, I 19]]), .t (.seq 2 [])], .t (.nilS), []⟩,
  ⟨[.t (.seq 2 [[I 14, I 15], [I 19, I 25]]), .t (.seq 2 [[I 15, I 19]])], .t (.nilS), []⟩,
  ⟨[.t (.seq 2 [[I 14, I 25]]), .t (.nilS)], .t (.nilS), []⟩,
  ⟨[.t (.seq 2 [[I 14, I 25]]), .t (.seq 2 [])], .t (.nilS), []⟩,
  ⟨[.t (.seq 2 kl101), .t (.seq 2 [[I 22, I 25]])], .t (.nilS), []⟩,
  ⟨[.t (.seq 2 [[I 14, I 15], [I 19, I 28]]), .t (.seq 2 [[I 15, I 19]])], .t (.nilS), []⟩,
  ⟨[.t (.seq 2 [[I 14, I 15], [I 28, I 32]]), .t (.seq 2 [[I 19, I 22], [I 25, I 28]])], .t (.nilS), []⟩,
  ⟨[.t (.seq 2 kl134), .t (.seq 2 [[I 22, I 25]])], .t (.nilS), []⟩,
  ⟨[.t (.seq 2 [[I 14, I 18], [I 28, I 29]]), .t (.seq 2 [[I 29, I 32]])], .t (.nilS), []⟩,
  ⟨[.t (.seq 2 [[I 14, I 18], [I 28, I 32]]), .t (.seq 2 [[I 19, I 22], [I 25, I 28]])], .t (.nilS), []⟩,
  ⟨[.t (.seq 2 kl174), .t (.seq 2 [[I 15, I 18]])], .t (.nilS), []⟩,
  ⟨[.t (.seq 2 kl175), .t (.seq 2 [[I 29, I 32]])], .t (.nilS), []⟩,
  ⟨[.t (.seq 2 kl207), .t (.seq 2 [[I 15, I 18]])], .t (.nilS), []⟩,
  ⟨[.t (.seq 2 kl208), .t (.seq 2 [[I 29, I 32]])], .t (.nilS), []⟩,
  ⟨[.t (.seq 2 kl101), .t (.seq 2 kl212)], .t (.nilS), []⟩,
  ⟨[.t (.seq 2 kl213), .t (.seq 2 [[I 15, I 18]])], .t (.nilS), []⟩]
theorem kc1_17_ok : chkP (E.orc 40) 174 kc1_17 = true := by kernel_rfl
/- palimp/span.Add, 13463 operations -/
def kc1_18 : List MP := [
  ⟨[.t (.seq 2 []), .t (.seq 2 [])], .t (.nilS), []⟩,
  ⟨[.t (.seq 2 [[I 14, I 19]]), .t (.nilS)], .tok 0 2 0 1, [.row 2 1 [[I 14, I 19]] false]⟩,
  ⟨[.t (.seq 2 [[I 14, I 19]]), .t (.seq 2 [])], .tok 0 2 0 1, [.row 2 1 [[I 14, I 19]] false]⟩,
  ⟨[.t (.seq 2 [[I 14, I 15], [I 19, I 25]]), .t (.seq 2 [[I 15, I 19]])], .tok 0 2 0 1, [.row 2 1 [[I 14, I 25]] false]⟩,
  ⟨[.t (.seq 2 kl101), .t (.seq 2 [[I 22, I 25]])], .tok 0 2 0 2, [.row 2 2 [[I 14, I 15], [I 19, I 28]] false]⟩,
  ⟨[.t (.seq 2 [[I 14, I 15], [I 28, I 32]]), .t (.seq 2 [[I 19, I 22], [I 25, I 28]])], .tok 0 2 0 3, [.row 2 3 kl134 false]⟩,
  ⟨[.t (.seq 2 [[I 14, I 18], [I 28, I 29]]), .t (.seq 2 [[I 29, I 32]])], .tok 0 2 0 2, [.row 2 2 [[I 14, I 18], [I 28, I 32]] false]⟩,
  ⟨[.t (.seq 2 kl174), .t (.seq 2 [[I 15, I 18]])], .tok 0 2 0 3, [.row 2 3 kl175 false]⟩,
  ⟨[.t (.seq 2 kl174), .t (.seq 2 [[I 14, I 15], [I 19, I 25]])], .tok 0 2 0 4, [.row 2 4 kl207 false]⟩,
  ⟨[.t (.seq 2 kl207), .t (.seq 2 [[I 15, I 18]])], .tok 0 2 0 3, [.row 2 3 kl208 false]⟩,
  ⟨[.t (.seq 2 kl101), .t (.seq 2 kl212)], .tok 0 2 0 3, [.row 2 3 kl213 false]⟩]
theorem kc1_18_ok : chkP (E.orc 40) 175 kc1_18 = true := by kernel_rfl
/- palimp/ptr.Take, 16147 operations -/
def kc1_19 : List MP := [
  ⟨[kv28, J 3], .tup [.tok 0 6 0 3, .str 4 0, .bool true], [.row 6 3 kl11 false]⟩,
  ⟨[kv7, J 1], .tup [.tok 0 6 0 1, .str 0 0, .bool true], [.row 6 1 kl6 false]⟩,
  ⟨[kv4, J 8], .tup [.tok 0 6 0 8, .str 0 0, .bool true], [.row 6 8 kl3 false]⟩,
  ⟨[.str 88 0, J 4], .tup [.tok 0 6 0 4, .str 0 0, .bool true], [.row 6 4 kl1 false]⟩,
  ⟨[.str 246 0, J 1], .tup [.tok 0 6 0 1, .str 224 0, .bool true], [.row 6 1 [[I 0, I 0, W 0, W 0, W 0, W 0]] false]⟩,
  ⟨[kv58, J 1], .tup [.tok 0 6 0 1, kv59, .bool true], [.row 6 1 kl15 false]⟩,
  ⟨[kv60, J 1], .tup [.tok 0 6 0 1, kv61, .bool true], [.row 6 1 kl47 false]⟩,
  ⟨[kv62, J 3], .tup [.tok 0 6 0 3, .str 4 0, .bool true], [.row 6 3 kl43 false]⟩,
  ⟨[kv38, J 1], .tup [.tok 0 6 0 1, .str 0 0, .bool true], [.row 6 1 kl37 false]⟩,
  ⟨[kv35, J 8], .tup [.tok 0 6 0 8, .str 0 0, .bool true], [.row 6 8 kl34 false]⟩,
  ⟨[kv31, J 4], .tup [.tok 0 6 0 4, .str 0 0, .bool true], [.row 6 4 kl30 false]⟩,
  ⟨[kv77, J 3], .tup [.tok 0 6 0 3, .str 4 0, .bool true], [.row 6 3 kl64 false]⟩,
  ⟨[kv99, J 3], .tup [.tok 0 6 0 3, .str 4 0, .bool true], [.row 6 3 kl92 false]⟩,
  ⟨[kv87, J 1], .tup [.tok 0 6 0 1, .str 0 0, .bool true], [.row 6 1 kl86 false]⟩,
  ⟨[kv84, J 8], .tup [.tok 0 6 0 8, .str 0 0, .bool true], [.row 6 8 kl83 false]⟩,
  ⟨[kv80, J 4], .tup [.tok 0 6 0 4, .str 0 0, .bool true], [.row 6 4 kl79 false]⟩,
  ⟨[kv126, J 3], .tup [.tok 0 6 0 3, .str 4 0x2000000, .bool true], [.row 6 3 kl105 false]⟩,
  ⟨[kv151, J 3], .tup [.tok 0 6 0 3, .str 4 0x2000000, .bool true], [.row 6 3 kl138 false]⟩,
  ⟨[kv131, J 1], .tup [.tok 0 6 0 1, .str 0 0, .bool true], [.row 6 1 kl130 false]⟩,
  ⟨[kv170, J 3], .tup [.tok 0 6 0 3, .str 4 0x2000000, .bool true], [.row 6 3 kl158 false]⟩,
  ⟨[kv192, J 1], .tup [.tok 0 6 0 1, kv193, .bool true], [.row 6 1 kl184 false]⟩,
  ⟨[kv194, J 1], .tup [.tok 0 6 0 1, kv195, .bool true], [.row 6 1 kl68 false]⟩,
  ⟨[kv196, J 1], .tup [.tok 0 6 0 1, kv197, .bool true], [.row 6 1 kl96 false]⟩,
  ⟨[kv198, J 1], .tup [.tok 0 6 0 1, kv199, .bool true], [.row 6 1 kl109 false]⟩,
  ⟨[kv200, J 1], .tup [.tok 0 6 0 1, kv201, .bool true], [.row 6 1 kl142 false]⟩,
  ⟨[kv202, J 1], .tup [.tok 0 6 0 1, kv203, .bool true], [.row 6 1 kl162 false]⟩,
  ⟨[kv204, J 3], .tup [.tok 0 6 0 3, .str 4 0x2000000, .bool true], [.row 6 3 kl180 false]⟩,
  ⟨[kv229, J 1], .tup [.tok 0 6 0 1, kv230, .bool true], [.row 6 1 kl220 false]⟩,
  ⟨[kv231, J 3], .tup [.tok 0 6 0 3, .str 4 0, .bool true], [.row 6 3 kl216 false]⟩]
theorem kc1_19_ok : chkP (E.orc 40) 252 kc1_19 = true := by kernel_rfl
/- palimp/rec.TakeNode, 5040 operations -/
def kc1_20 : List MP := [
  ⟨[.str 93 2], .tup [.agg [J 2, J 0, .str 0 0, .str 0 0, J 0], J 0, .tok 0 6 0 4, .bool true], [.row 6 4 kl1 false]⟩,
  ⟨[kv32], .tup [.agg [J 1, J 0, .str 1 97, .str 0 0, J 0], J 2, .tok 0 6 0 4, .bool true], [.row 6 4 kl30 false]⟩,
  ⟨[kv81], .tup [.agg [J 1, J 0, .str 1 97, .str 0 0, J 0], J 3, .tok 0 6 0 4, .bool true], [.row 6 4 kl79 false]⟩]
theorem kc1_20_ok : chkP (E.orc 40) 318 kc1_20 = true := by kernel_rfl
/- palimp/smap.Take, 24880 operations -/
def kc1_21 : List MP := [
  ⟨[J 60, .str 32 31], .tup [.tok 0 2 0 1, .str 24 0, .bool true], [.row 2 1 [[I 14, I 19]] false]⟩,
  ⟨[J 60, .str 24 0], .tup [.t (.nilS), .str 16 0, .bool true], []⟩,
  ⟨[J 60, .str 16 0], .tup [.t (.nilS), .str 8 0, .bool true], []⟩,
  ⟨[J 60, .str 8 0], .tup [.t (.nilS), .str 0 0, .bool true], []⟩,
  ⟨[J 60, kv41], .tup [.tok 0 2 0 2, .str 24 30, .bool true], [.row 2 2 [[I 14, I 15], [I 19, I 25]] false]⟩,
  ⟨[J 60, .str 24 30], .tup [.tok 0 2 0 1, .str 16 0, .bool true], [.row 2 1 [[I 15, I 19]] false]⟩,
  ⟨[J 80, .str 40 31], .tup [.tok 0 2 0 1, .str 30 0, .bool true], [.row 2 1 [[I 14, I 19]] false]⟩,
  ⟨[J 80, .str 30 0], .tup [.t (.nilS), .str 20 0, .bool true], []⟩,
  ⟨[J 80, .str 20 0], .tup [.t (.nilS), .str 10 0, .bool true], []⟩,
  ⟨[J 80, .str 10 0], .tup [.t (.nilS), .str 0 0, .bool true], []⟩,
  ⟨[J 80, kv90], .tup [.tok 0 2 0 2, .str 30 30, .bool true], [.row 2 2 [[I 14, I 15], [I 19, I 25]] false]⟩,
  ⟨[J 80, .str 30 30], .tup [.tok 0 2 0 1, .str 20 0, .bool true], [.row 2 1 [[I 15, I 19]] false]⟩,
  ⟨[J 80, kv103], .tup [.tok 0 2 0 3, kv127, .bool true], [.row 2 3 kl101 false]⟩,
  ⟨[J 80, kv127], .tup [.tok 0 2 0 1, kv128, .bool true], [.row 2 1 [[I 22, I 25]] false]⟩,
  ⟨[J 80, kv128], .tup [.tok 0 2 0 1, .str 10 2017, .bool true], [.row 2 1 [[I 15, I 19]] false]⟩,
  ⟨[J 80, .str 10 2017], .tup [.tok 0 2 0 2, .str 0 0, .bool true], [.row 2 2 [[I 14, I 15], [I 19, I 25]] false]⟩,
  ⟨[J 80, kv136], .tup [.tok 0 2 0 2, kv152, .bool true], [.row 2 2 [[I 14, I 15], [I 28, I 32]] false]⟩,
  ⟨[J 80, kv152], .tup [.tok 0 2 0 2, kv153, .bool true], [.row 2 2 [[I 19, I 22], [I 25, I 28]] false]⟩,
  ⟨[J 80, kv153], .tup [.tok 0 2 0 1, .str 10 2017, .bool true], [.row 2 1 [[I 22, I 25]] false]⟩]
theorem kc1_21_ok : chkP (E.orc 40) 248 kc1_21 = true := by kernel_rfl
/- palimp/smap.Take, 12949 operations -/
def kc1_22 : List MP := [
  ⟨[J 80, kv156], .tup [.tok 0 2 0 2, kv171, .bool true], [.row 2 2 [[I 14, I 18], [I 28, I 29]] false]⟩,
  ⟨[J 80, kv171], .tup [.tok 0 2 0 1, kv172, .bool true], [.row 2 1 [[I 29, I 32]] false]⟩,
  ⟨[J 80, kv172], .tup [.tok 0 2 0 2, .str 10 2017, .bool true], [.row 2 2 [[I 19, I 22], [I 25, I 28]] false]⟩,
  ⟨[J 80, kv178], .tup [.tok 0 2 0 4, kv205, .bool true], [.row 2 4 kl174 false]⟩,
  ⟨[J 80, kv205], .tup [.tok 0 2 0 1, kv206, .bool true], [.row 2 1 [[I 15, I 18]] false]⟩,
  ⟨[J 80, kv206], .tup [.tok 0 2 0 1, .str 10 2017, .bool true], [.row 2 1 [[I 29, I 32]] false]⟩,
  ⟨[J 80, kv214], .tup [.tok 0 2 0 3, kv232, .bool true], [.row 2 3 kl101 false]⟩,
  ⟨[J 80, kv232], .tup [.tok 0 2 0 4, .str 20 14, .bool true], [.row 2 4 kl212 false]⟩,
  ⟨[J 80, .str 20 14], .tup [.tok 0 2 0 1, .str 10 0, .bool true], [.row 2 1 [[I 15, I 18]] false]⟩]
theorem kc1_22_ok : chkP (E.orc 40) 248 kc1_22 = true := by kernel_rfl
noncomputable def kM1 : Memo := ⟨[109, 112, 124, 174, 175, 130, 223, 78, 127, 134, 139, 252, 318, 248, 207], [(109, kc1_0), (112, kc1_1), (130, kc1_2), (223, kc1_3), (78, kc1_4), (127, kc1_5), (127, kc1_6), (127, kc1_7), (127, kc1_8), (127, kc1_9), (127, kc1_10), (134, kc1_11), (139, kc1_12), (207, kc1_13)], [(124, kc1_14), (124, kc1_15), (124, kc1_16), (174, kc1_17), (175, kc1_18), (252, kc1_19), (318, kc1_20), (248, kc1_21), (248, kc1_22)]⟩
noncomputable def kE2 : Env := E.withM 40 kM1
theorem kE2_ok : EnvOk Proofs.Tryz.prog kE2 := withM_ok E_ok ⟨kc1_0_ok, kc1_1_ok, kc1_2_ok, kc1_3_ok, kc1_4_ok, kc1_5_ok, kc1_6_ok, kc1_7_ok, kc1_8_ok, kc1_9_ok, kc1_10_ok, kc1_11_ok, kc1_12_ok, kc1_13_ok, trivial⟩ ⟨kc1_14_ok, kc1_15_ok, kc1_16_ok, kc1_17_ok, kc1_18_ok, kc1_19_ok, kc1_20_ok, kc1_21_ok, kc1_22_ok, trivial⟩
/- palimp/pool.Create, 26579 operations -/
def kc2_0 : List MP := [
  ⟨[J 60, J 7], .tup [.agg [.tok 0 1 0 88, .t (.nilS), J 0, J 0, .bool false, J 18, J 1, U 0xc18b8899, U 0xcfba61f9, U 0x751fce33, U 0xde7fedc4, J 1, J 2, J 7, J 16, J 1, U 0x9770367c, U 0x25659d11, U 0xe1c08a78, U 0x9021ca78, J 17, J 1, U 0x1f200006, U 0xa8e0017f, U 0x1c003080, U 0xb4042860, J 0, J 0, U 0, U 0, U 0, U 0, J 0, .tok 1 2 0 1, .t (.nilS), .t (.nilS), .tok 2 2 0 0, J 1, J 1, .tok 3 5 0 1, .bool false], .bool true], [.row 1 88 kl25 false, .row 2 1 [[I 14, I 19]] false, .row 2 0 [] false, .row 5 1 [[I 1, I 1, I 0, I 0, .seq 5 kl0]] true]⟩]
theorem kc2_0_ok : chkP (kE2.orc 40) 13 kc2_0 = true := by kernel_rfl
/- palimp/pool.Create, 30039 operations -/
def kc2_1 : List MP := [
  ⟨[J 80, J 7], .tup [.agg [.tok 0 1 0 108, .t (.nilS), J 0, J 0, .bool false, J 18, J 1, U 0x578b8899, U 0x5eba6201, U 0xe21fcfd3, U 0x888018d4, J 1, J 2, J 7, J 16, J 1, U 0x9770367c, U 0x25659d11, U 0xe1c08a78, U 0x9021ca78, J 17, J 1, U 0x1f280006, U 0xaad8017f, U 0x5b003080, U 0x9042860, J 0, J 0, U 0, U 0, U 0, U 0, J 0, .tok 1 2 0 1, .t (.nilS), .t (.nilS), .tok 2 2 0 0, J 1, J 1, .tok 3 5 0 1, .bool false], .bool true], [.row 1 108 kl75 false, .row 2 1 [[I 14, I 19]] false, .row 2 0 [] false, .row 5 1 [[I 1, I 1, I 0, I 0, .seq 5 kl0]] true]⟩]
theorem kc2_1_ok : chkP (kE2.orc 40) 13 kc2_1 = true := by kernel_rfl
/- palimp/play.Do, 64537 operations -/
def kc2_2 : List MP := [
  ⟨[.agg [.t (.seq 1 kl25), .t (.seq 2 []), J 0, J 0, .bool false, J 18, J 1, U 0xc18b8899, U 0xcfba61f9, U 0x751fce33, U 0xde7fedc4, J 1, J 2, J 7, J 16, J 1, U 0x9770367c, U 0x25659d11, U 0xe1c08a78, U 0x9021ca78, J 17, J 1, U 0x1f200006, U 0xa8e0017f, U 0x1c003080, U 0xb4042860, J 0, J 0, U 0, U 0, U 0, U 0, J 0, .t (.seq 2 [[I 14, I 19]]), .t (.seq 2 []), .t (.seq 2 []), .t (.seq 2 []), J 1, J 1, .t (.seq 5 [[I 1, I 1, I 0, I 0, .seq 5 kl27]]), .bool false], .agg [J 15, J 0, J 0, J 0, J 0, .str 0 0, .str 0 0, .str 0 0, .t (.nilS)]], .tup [.agg [.tok 0 1 0 88, .t (.nilS), J 0, J 0, .bool false, J 24, J 2, U 0xa0b4ea1a, U 0xfcd9e230, U 0xc147f66d, U 0xa0816dc0, J 2, J 2, J 7, J 22, J 2, U 0x24fffd77, U 0x9a56d25, U 0xec520d4e, U 0x19c28e07, J 23, J 2, U 0xff20000e, U 0x8ce00370, U 0x76006dc7, U 0x96094640, J 0, J 0, U 0, U 0, U 0, U 0, J 0, .tok 1 2 0 2, .tok 2 2 0 1, .t (.nilS), .tok 3 2 0 0, J 2, J 2, .tok 4 5 0 1, .bool false], .agg [J 0, .str 0 0, J 0, J 0, J 0, J 0, .t (.nilS), J 2]], [.row 1 88 kl57 false, .row 2 2 [[I 14, I 15], [I 19, I 25]] false, .row 2 1 [[I 15, I 19]] true, .row 2 0 [] false, .row 5 1 [[I 1, I 1, I 0, I 0, .seq 5 kl27]] true]⟩]
theorem kc2_2_ok : chkP (kE2.orc 40) 14 kc2_2 = true := by kernel_rfl
/- palimp/play.Do, 47885 operations -/
def kc2_3 : List MP := [
  ⟨[.agg [.t (.seq 1 kl57), .t (.nilS), J 0, J 0, .bool false, J 0, J 0, U 0, U 0, U 0, U 0, J 0, J 0, J 0, J 0, J 0, U 0, U 0, U 0, U 0, J 0, J 0, U 0, U 0, U 0, U 0, J 0, J 0, U 0, U 0, U 0, U 0, J 0, .t (.nilS), .t (.nilS), .t (.nilS), .t (.nilS), J 0, J 0, .t (.nilS), .bool false], .agg [J 18, J 0, J 0, J 0, J 0, .str 0 0, .str 0 0, .str 0 0, .t (.nilS)]], .tup [.agg [.tok 0 1 0 88, .tok 1 2 0 0, J 0, J 0, .bool false, J 24, J 2, U 0xa0b4ea1a, U 0xfcd9e230, U 0xc147f66d, U 0xa0816dc0, J 2, J 2, J 7, J 22, J 2, U 0x24fffd77, U 0x9a56d25, U 0xec520d4e, U 0x19c28e07, J 23, J 2, U 0xff20000e, U 0x8ce00370, U 0x76006dc7, U 0x96094640, J 0, J 0, U 0, U 0, U 0, U 0, J 0, .t (.seq 2 [[I 14, I 15], [I 19, I 25]]), .t (.seq 2 [[I 15, I 19]]), .t (.nilS), .t (.nilS), J 2, J 2, .t (.seq 5 [[I 1, I 1, I 0, I 0, .seq 5 kl27]]), .bool false], .agg [J 0, .str 0 0, J 0, J 0, J 0, J 0, .t (.nilS), J 2]], [.row 1 88 kl57 false, .row 2 0 [] false]⟩]
theorem kc2_3_ok : chkP (kE2.orc 40) 14 kc2_3 = true := by kernel_rfl
/- palimp/play.Do, 179200 operations -/
def kc2_4 : List MP := [
  ⟨[.agg [.t (.seq 1 kl75), .t (.seq 2 []), J 0, J 0, .bool false, J 18, J 1, U 0x578b8899, U 0x5eba6201, U 0xe21fcfd3, U 0x888018d4, J 1, J 2, J 7, J 16, J 1, U 0x9770367c, U 0x25659d11, U 0xe1c08a78, U 0x9021ca78, J 17, J 1, U 0x1f280006, U 0xaad8017f, U 0x5b003080, U 0x9042860, J 0, J 0, U 0, U 0, U 0, U 0, J 0, .t (.seq 2 [[I 14, I 19]]), .t (.seq 2 []), .t (.seq 2 []), .t (.seq 2 []), J 1, J 1, .t (.seq 5 [[I 1, I 1, I 0, I 0, .seq 5 kl76]]), .bool false], .agg [J 16, J 0, J 0, J 0, J 0, .str 0 0, .str 0 0, .str 0 0, .t (.nilS)]], .tup [.agg [.tok 0 1 0 108, .t (.nilS), J 0, J 0, .bool false, J 27, J 3, U 0xc884b0c4, U 0xdb7b2616, U 0x5fd294f5, U 0x2774279e, J 3, J 2, J 7, J 25, J 3, U 0x2b4938f3, U 0xe48b2b8e, U 0xfd033140, U 0x5f29a520, J 26, J 3, U 0xff36e140, U 0x382d668d, U 0xfe716f78, U 0xffd5e3a0, J 24, J 2, U 0x46fdc777, U 0x3cdb59b0, U 0x9c13f32d, U 0x893343a5, J 2, .tok 1 2 0 3, .tok 2 2 0 1, .tok 3 2 0 1, .tok 4 2 0 2, J 3, J 3, .tok 5 5 0 1, .bool false], .agg [J 0, .str 0 0, J 0, J 0, J 0, J 0, .t (.nilS), J 0]], [.row 1 108 kl123 false, .row 2 3 kl101 false, .row 2 1 [[I 22, I 25]] true, .row 2 1 [[I 15, I 19]] false, .row 2 2 [[I 14, I 15], [I 19, I 25]] false, .row 5 1 [[I 1, I 1, I 0, I 0, .seq 5 kl76]] true]⟩]
theorem kc2_4_ok : chkP (kE2.orc 40) 14 kc2_4 = true := by kernel_rfl
/- palimp/play.Do, 127073 operations -/
def kc2_5 : List MP := [
  ⟨[.agg [.t (.seq 1 kl123), .t (.seq 2 []), J 0, J 0, .bool false, J 27, J 3, U 0xc884b0c4, U 0xdb7b2616, U 0x5fd294f5, U 0x2774279e, J 3, J 3, J 7, J 25, J 3, U 0x2b4938f3, U 0xe48b2b8e, U 0xfd033140, U 0x5f29a520, J 26, J 3, U 0xff36e140, U 0x382d668d, U 0xfe716f78, U 0xffd5e3a0, J 24, J 2, U 0x46fdc777, U 0x3cdb59b0, U 0x9c13f32d, U 0x893343a5, J 2, .t (.seq 2 kl101), .t (.seq 2 [[I 22, I 25]]), .t (.seq 2 [[I 15, I 19]]), .t (.seq 2 [[I 14, I 15], [I 19, I 25]]), J 3, J 3, .t (.seq 5 [[I 2, I 1, I 0, I 0, .seq 5 kl0]]), .bool false], .agg [J 15, J 0, J 0, J 0, J 0, .str 0 0, .str 0 0, .str 0 0, .t (.nilS)]], .tup [.agg [.tok 0 1 0 108, .t (.nilS), J 0, J 0, .bool false, J 31, J 4, U 0x101677af, U 0xf2f5dc32, U 0x3a567fcc, U 0x7d16def4, J 4, J 3, J 7, J 29, J 4, U 0xe789397f, U 0x1af84bce, U 0x8d7bbb18, U 0xa41b9a58, J 30, J 4, U 0x168c4d0, U 0x57dec34b, U 0xe113d513, U 0xa2593d2b, J 24, J 2, U 0x46fdc777, U 0x3cdb59b0, U 0x9c13f32d, U 0x893343a5, J 2, .tok 1 2 0 2, .tok 2 2 0 2, .tok 3 2 0 1, .tok 4 2 0 2, J 4, J 4, .tok 5 5 0 1, .bool false], .agg [J 0, .str 0 0, J 0, J 0, J 0, J 0, .t (.nilS), J 4]], [.row 1 108 kl150 false, .row 2 2 [[I 14, I 15], [I 28, I 32]] false, .row 2 2 [[I 19, I 22], [I 25, I 28]] true, .row 2 1 [[I 22, I 25]] false, .row 2 2 [[I 14, I 15], [I 19, I 25]] false, .row 5 1 [[I 2, I 1, I 0, I 0, .seq 5 kl0]] true]⟩]
theorem kc2_5_ok : chkP (kE2.orc 40) 14 kc2_5 = true := by kernel_rfl
/- palimp/play.Do, 123314 operations -/
def kc2_6 : List MP := [
  ⟨[.agg [.t (.seq 1 kl150), .t (.nilS), J 0, J 0, .bool false, J 31, J 4, U 0x101677af, U 0xf2f5dc32, U 0x3a567fcc, U 0x7d16def4, J 4, J 3, J 7, J 29, J 4, U 0xe789397f, U 0x1af84bce, U 0x8d7bbb18, U 0xa41b9a58, J 30, J 4, U 0x168c4d0, U 0x57dec34b, U 0xe113d513, U 0xa2593d2b, J 24, J 2, U 0x46fdc777, U 0x3cdb59b0, U 0x9c13f32d, U 0x893343a5, J 2, .t (.seq 2 [[I 14, I 15], [I 28, I 32]]), .t (.seq 2 [[I 19, I 22], [I 25, I 28]]), .t (.seq 2 [[I 22, I 25]]), .t (.seq 2 [[I 14, I 15], [I 19, I 25]]), J 4, J 4, .t (.seq 5 [[I 2, I 1, I 0, I 0, .seq 5 kl0]]), .bool false], .agg [J 15, J 0, J 0, J 0, J 0, .str 0 0, .str 0 0, .str 0 0, .t (.nilS)]], .tup [.agg [.tok 0 1 0 108, .t (.nilS), J 0, J 0, .bool false, J 17, J 5, U 0xf5b67126, U 0xdd8faa26, U 0x3ef50a35, U 0x9f902b0e, J 5, J 3, J 7, J 15, J 5, U 0xe7893980, U 0x1af84c0d, U 0x8d7bc2f8, U 0xa41c44f8, J 16, J 5, U 0xf2afe182, U 0x4e897573, U 0xaf6925d8, U 0x1fd41638, J 24, J 2, U 0x46fdc777, U 0x3cdb59b0, U 0x9c13f32d, U 0x893343a5, J 2, .tok 1 2 0 2, .tok 2 2 0 1, .tok 3 2 0 2, .tok 4 2 0 2, J 5, J 5, .tok 5 5 0 1, .bool false], .agg [J 0, .str 0 0, J 0, J 0, J 0, J 0, .t (.nilS), J 5]], [.row 1 108 kl169 false, .row 2 2 [[I 14, I 18], [I 28, I 29]] false, .row 2 1 [[I 29, I 32]] true, .row 2 2 [[I 19, I 22], [I 25, I 28]] false, .row 2 2 [[I 14, I 15], [I 19, I 25]] false, .row 5 1 [[I 2, I 1, I 0, I 0, .seq 5 kl0]] true]⟩]
theorem kc2_6_ok : chkP (kE2.orc 40) 14 kc2_6 = true := by kernel_rfl
/- palimp/play.Do, 131376 operations -/
def kc2_7 : List MP := [
  ⟨[.agg [.t (.seq 1 kl169), .t (.nilS), J 0, J 0, .bool false, J 17, J 5, U 0xf5b67126, U 0xdd8faa26, U 0x3ef50a35, U 0x9f902b0e, J 5, J 3, J 7, J 15, J 5, U 0xe7893980, U 0x1af84c0d, U 0x8d7bc2f8, U 0xa41c44f8, J 16, J 5, U 0xf2afe182, U 0x4e897573, U 0xaf6925d8, U 0x1fd41638, J 24, J 2, U 0x46fdc777, U 0x3cdb59b0, U 0x9c13f32d, U 0x893343a5, J 2, .t (.seq 2 [[I 14, I 18], [I 28, I 29]]), .t (.seq 2 [[I 29, I 32]]), .t (.seq 2 [[I 19, I 22], [I 25, I 28]]), .t (.seq 2 [[I 14, I 15], [I 19, I 25]]), J 5, J 5, .t (.seq 5 [[I 2, I 1, I 0, I 0, .seq 5 kl0]]), .bool false], .agg [J 15, J 0, J 0, J 0, J 0, .str 0 0, .str 0 0, .str 0 0, .t (.nilS)]], .tup [.agg [.tok 0 1 0 108, .t (.nilS), J 0, J 0, .bool false, J 33, J 6, U 0xfe9f09c, U 0x54fe1274, U 0xfb2ebeff, U 0x91747b15, J 6, J 3, J 7, J 18, J 6, U 0xe7893981, U 0x1af84c4c, U 0x8d7bcad8, U 0xa41cef98, J 32, J 6, U 0x112ffecb, U 0x3a9060ba, U 0x4b3dfda0, U 0xdf2ab700, J 24, J 2, U 0x46fdc777, U 0x3cdb59b0, U 0x9c13f32d, U 0x893343a5, J 2, .tok 1 2 0 4, .tok 2 2 0 1, .tok 3 2 0 1, .tok 4 2 0 2, J 0, J 6, .tok 5 5 0 1, .bool false], .agg [J 0, .str 0 0, J 0, J 0, J 0, J 0, .t (.nilS), J 6]], [.row 1 108 kl191 false, .row 2 4 kl174 false, .row 2 1 [[I 15, I 18]] true, .row 2 1 [[I 29, I 32]] false, .row 2 2 [[I 14, I 15], [I 19, I 25]] false, .row 5 1 [[I 2, I 1, I 0, I 0, .seq 5 kl0]] true]⟩]
theorem kc2_7_ok : chkP (kE2.orc 40) 14 kc2_7 = true := by kernel_rfl
/- palimp/play.Do, 194125 operations -/
def kc2_8 : List MP := [
  ⟨[.agg [.t (.seq 1 kl191), .t (.nilS), J 0, J 0, .bool false, J 0, J 0, U 0, U 0, U 0, U 0, J 0, J 0, J 0, J 0, J 0, U 0, U 0, U 0, U 0, J 0, J 0, U 0, U 0, U 0, U 0, J 0, J 0, U 0, U 0, U 0, U 0, J 0, .t (.nilS), .t (.nilS), .t (.nilS), .t (.nilS), J 0, J 0, .t (.nilS), .bool false], .agg [J 18, J 0, J 2, J 0, J 0, .str 0 0, .str 0 0, .str 0 0, .t (.nilS)]], .tup [.agg [.tok 0 1 0 108, .t (.nilS), J 0, J 0, .bool false, J 27, J 7, U 0x69703c85, U 0x4f51afd1, U 0xc67a505b, U 0xe6370baa, J 7, J 3, J 7, J 25, J 7, U 0x2b4938f7, U 0xe48b2c8a, U 0xfd0350c0, U 0x5f2c4fa0, J 26, J 7, U 0xfb6f1044, U 0x757fd089, U 0x70fe6af8, U 0x838b8220, J 0, J 0, U 0, U 0, U 0, U 0, J 0, .tok 1 2 0 3, .tok 2 2 0 4, .tok 3 2 0 1, .tok 4 2 0 0, J 1, J 7, .tok 5 5 0 1, .bool false], .agg [J 0, .str 0 0, J 0, J 0, J 0, J 0, .t (.nilS), J 7]], [.row 1 108 kl227 false, .row 2 3 kl101 false, .row 2 4 kl212 true, .row 2 1 [[I 15, I 18]] false, .row 2 0 [] false, .row 5 1 [[I 1, I 1, I 0, I 0, .seq 5 kl76]] true]⟩]
theorem kc2_8_ok : chkP (kE2.orc 40) 14 kc2_8 = true := by kernel_rfl
/- palimp/play.Do, 82704 operations -/
def kc2_9 : List MP := [
  ⟨[.agg [.t (.seq 1 kl227), .t (.seq 2 []), J 0, J 0, .bool false, J 27, J 7, U 0x69703c85, U 0x4f51afd1, U 0xc67a505b, U 0xe6370baa, J 7, J 4, J 7, J 25, J 7, U 0x2b4938f7, U 0xe48b2c8a, U 0xfd0350c0, U 0x5f2c4fa0, J 26, J 7, U 0xfb6f1044, U 0x757fd089, U 0x70fe6af8, U 0x838b8220, J 0, J 0, U 0, U 0, U 0, U 0, J 0, .t (.seq 2 kl101), .t (.seq 2 kl212), .t (.seq 2 [[I 15, I 18]]), .t (.seq 2 []), J 1, J 7, .t (.seq 5 kl228), .bool false], .agg [J 18, J 0, J 2, J 0, J 0, .str 0 0, .str 0 0, .str 0 0, .t (.nilS)]], .tup [.agg [.tok 0 1 0 108, .tok 1 2 0 0, J 0, J 0, .bool false, J 27, J 7, U 0x69703c85, U 0x4f51afd1, U 0xc67a505b, U 0xe6370baa, J 7, J 4, J 7, J 25, J 7, U 0x2b4938f7, U 0xe48b2c8a, U 0xfd0350c0, U 0x5f2c4fa0, J 26, J 7, U 0xfb6f1044, U 0x757fd089, U 0x70fe6af8, U 0x838b8220, J 0, J 0, U 0, U 0, U 0, U 0, J 0, .tok 2 2 0 3, .tok 3 2 0 4, .tok 4 2 0 1, .tok 5 2 0 0, J 1, J 7, .tok 6 5 0 2, .bool false], .agg [J 2, .str 0 0, J 0, J 0, J 0, J 0, .t (.nilS), J 0]], [.row 1 108 kl227 false, .row 2 0 [] false, .row 2 3 kl101 false, .row 2 4 kl212 false, .row 2 1 [[I 15, I 18]] false, .row 2 0 [] false, .row 5 2 kl228 false]⟩]
theorem kc2_9_ok : chkP (kE2.orc 40) 14 kc2_9 = true := by kernel_rfl
/- palimp/play.Do, 82745 operations -/
def kc2_10 : List MP := [
  ⟨[.agg [.t (.seq 1 kl227), .t (.seq 2 []), J 0, J 0, .bool false, J 27, J 7, U 0x69703c85, U 0x4f51afd1, U 0xc67a505b, U 0xe6370baa, J 7, J 4, J 7, J 25, J 7, U 0x2b4938f7, U 0xe48b2c8a, U 0xfd0350c0, U 0x5f2c4fa0, J 26, J 7, U 0xfb6f1044, U 0x757fd089, U 0x70fe6af8, U 0x838b8220, J 0, J 0, U 0, U 0, U 0, U 0, J 0, .t (.seq 2 kl101), .t (.seq 2 kl212), .t (.seq 2 [[I 15, I 18]]), .t (.seq 2 []), J 1, J 7, .t (.seq 5 kl228), .bool false], .agg [J 18, J 0, J 0, J 0, J 0, .str 0 0, .str 0 0, .str 0 0, .t (.nilS)]], .tup [.agg [.tok 0 1 0 108, .tok 1 2 0 0, J 0, J 0, .bool false, J 27, J 7, U 0x69703c85, U 0x4f51afd1, U 0xc67a505b, U 0xe6370baa, J 7, J 3, J 7, J 25, J 7, U 0x2b4938f7, U 0xe48b2c8a, U 0xfd0350c0, U 0x5f2c4fa0, J 26, J 7, U 0xfb6f1044, U 0x757fd089, U 0x70fe6af8, U 0x838b8220, J 0, J 0, U 0, U 0, U 0, U 0, J 0, .t (.seq 2 kl101), .t (.seq 2 kl212), .t (.seq 2 [[I 15, I 18]]), .t (.nilS), J 1, J 7, .t (.seq 5 [[I 1, I 1, I 0, I 0, .seq 5 kl76]]), .bool false], .agg [J 0, .str 0 0, J 0, J 0, J 0, J 0, .t (.nilS), J 7]], [.row 1 108 kl227 false, .row 2 0 [] false]⟩]
theorem kc2_10_ok : chkP (kE2.orc 40) 14 kc2_10 = true := by kernel_rfl
noncomputable def kM2 : Memo := ⟨[13, 14], [], [(13, kc2_0), (13, kc2_1), (14, kc2_2), (14, kc2_3), (14, kc2_4), (14, kc2_5), (14, kc2_6), (14, kc2_7), (14, kc2_8), (14, kc2_9), (14, kc2_10)]⟩
noncomputable def kE3 : Env := kE2.withM 40 kM2
theorem kE3_ok : EnvOk Proofs.Tryz.prog kE3 := withM_ok kE2_ok trivial ⟨kc2_0_ok, kc2_1_ok, kc2_2_ok, kc2_3_ok, kc2_4_ok, kc2_5_ok, kc2_6_ok, kc2_7_ok, kc2_8_ok, kc2_9_ok, kc2_10_ok, trivial⟩
theorem run_TopKeeping0 : isS (kE3.scalN (kE3.orc 39) 6 []) (.bool true) = true := by kernel_rfl
theorem run_TopKeeping : kE3.scalN (kE3.orc 39) 6 [] = some (.bool true) := isS_eq run_TopKeeping0
end Go.Top
